/- JB12: texts T2, T3, T4, T5, joined and shortened by pack6.py. -/
import Derived.Test.YtnaokiodhoadjaaGreatDoorJB11
set_option linter.all false
set_option maxRecDepth 100000
set_option maxHeartbeats 64000000
open ByteArray renaming empty→tp
open List renaming replicate→tg,range→tr,all_cons→vE,any_cons→vi,take→xX
namespace Go.Proofs.YtnaokiodhoadjaaGreatDoor
section
open Go Go.AM Go.Proofs.Tryz
def LS(f:Bool)(a:List ByteArray):V:=.lst 1 f (a.map V.str)
@[simp] theorem LS_pure (f:Bool) (a:List ByteArray):AM.Pure (LS f a):=by simp[LS]
@[simp] theorem pure_takeS (i:Nat) (a:List ByteArray):(∀x,x∈xX i (List.map V.str a)->AM.Pure x)↔True:=iff_true_intro fun x hx=>by
 obtain⟨s,_,rfl⟩:=List.mem_map.1 (uh hx);exact .str s
def ixS(a:List ByteArray)(x:ByteArray)(i:Nat):Int:=if h:i<a.length then(if(x.toList == a[i].toList)=true then(i:Int) else ixS a x (i+1)) else -1
termination_by a.length-i
def memS(a:List ByteArray)(x:ByteArray):Bool:=a.any fun e=>x.toList == e.toList
def ixS_mem(a:List ByteArray)(x:ByteArray)(i:Nat):decide (0<=ixS a x i)=memS (a.drop i) x:=by
 unfold memS
 fun_induction ixS a x i with
 | case1 i h h0=>rw[th h,vi,h0];simp
 | case2 i h h0 b=>rw[th h,vi,b];simp[h0]
 | case3 i h=>rw[tj ω];rfl
def indexS(a:List ByteArray)(x:ByteArray)(f:Bool)(hl:a.length<=1000000):aK prog 92 [LS f a,.str x] fun r=>r = .int .i64 (ixS a x 0):=by
 refine sPx func92 ?_;simp -dsimp[f92,tg,LS];refine aI (W_loopM 19 0x7ff30 zMx (σ:=Nat) (fun i=>ixS a x i=ixS a x 0) (fun i=>a.length-i) (fun i=>[(8,.int .i64 i)]) (fun _=>[]) 0 rfl ζ rfl ζ ?_);intro i hx N Q c b;by_cases hb:i<a.length
 .rw[ixS,dif_pos hb]at hx;cases hq:(x.toList == a[i].toList)
  .rw[hq,if_neg ζ]at hx;refine wx ?_;simp -dsimp[hb,hq];simp -dsimp[aE i ω];refine c (i+1) _ _ hx ω ζ ⟨[],rfl⟩ ζ ζ
  .rw[hq,if_pos rfl]at hx;refine wx ?_;simp -dsimp[hb,hq];apply b;simp -dsimp;exact hx
 .rw[ixS,dif_neg hb]at hx;refine wx ?_;simp -dsimp[hb];apply b;simp -dsimp;exact hx
def containsS(a:List ByteArray)(x:ByteArray)(f:Bool)(hl:a.length<=1000000):aK prog 50 [LS f a,.str x] fun r=>r = .bool (memS a x):=by
 have h0:=ixS_mem a x 0;rw[uG]at h0;refine sPx func50 ?_;simp -dsimp[f50,tg];refine cPx (indexS a x f hl) ?_;simp -dsimp;rw[<-h0]
def beq_comm'(a b:List UInt8):(a == b)=(b == a):=by rw[vH,beq_iff_eq,beq_iff_eq];exact eq_comm
def attrS(a:List ByteArray)(x:ByteArray)(f:Bool)(hl:a.length<=1000000):aK prog 130 [LS f a,.str x] fun r=>r = .int .i64 (ixS a x 0):=by
 refine sPx func130 ?_;simp -dsimp[f130,tg,LS];refine aI (W_loopM 19 0x7fff0 zMx (σ:=Nat) (fun i=>ixS a x i=ixS a x 0) (fun i=>a.length-i) (fun i=>[(5,.int .i64 i)]) (fun _=>[]) 0 rfl ζ rfl ζ ?_);intro i hx N Q c b;by_cases hb:i<a.length
 .rw[ixS,dif_pos hb,beq_comm']at hx;cases hq:(a[i].toList == x.toList)
  .rw[hq,if_neg ζ]at hx;refine wx ?_;simp -dsimp[hb,hq];simp -dsimp[aE i ω];refine c (i+1) _ _ hx ω ζ ⟨[],rfl⟩ ζ ζ
  .rw[hq,if_pos rfl]at hx;refine wx ?_;simp -dsimp[hb,hq];apply b;simp -dsimp;exact hx
 .rw[ixS,dif_neg hb]at hx;refine wx ?_;simp -dsimp[hb];apply b;simp -dsimp;exact hx
def sAt(a:List ByteArray)(i:Nat):ByteArray:=a.getD i tp
def nmAt(a:List ByteArray)(i:Nat):Bool:=cJ (sAt a i)&&!memS (a.take i) (sAt a i)
def iT(a:List ByteArray):Bool:=(tr a.length).all (nmAt a)
def names03(a:List ByteArray)(f:Bool)(hl:a.length<=1000000)(hs:∀s∈a,s.size<=maxLen):aK prog 82 [LS f a] fun r=>r = .bool (iT a):=by
 unfold iT;refine sPx func82 ?_;simp -dsimp[f82,tg,LS];refine aI (W_loopM 27 0x7fffffc zMx (σ:=Nat) (fun i=>i<=a.length/\(tr i).all (nmAt a)=true) (fun i=>a.length-i) (fun i=>[(3,.int .i64 i)]) (fun _=>[]) 0 ⟨ω,rfl⟩ ζ rfl ζ ?_);rintro i ⟨hi,hall⟩ N Q j g;by_cases hb:i<a.length
 .have h:sAt a i=a[i]:=by simp[sAt,hb]
  have b:nmAt a i=(cJ a[i]&&!memS (a.take i) a[i]):=by unfold nmAt;rw[h]
  have c:=rt a[i] (hs _ (ti hb));have e:=attrS (a.take i) a[i] (f&&i == a.length) χ;have hm:=ixS_mem (a.take i) a[i] 0;rw[uG]at hm;simp only[LS,wM]at e;cases h1:cJ a[i]
  .rw[h1,uE]at b;rw[h1]at c;refine wx ?_;simp -dsimp[hb];refine sTx ?_;refine cQx c ?_;simp -dsimp;apply g;simp -dsimp;exact⟨_,hb,b⟩
  .rw[h1,uF]at b;rw[h1]at c;cases h2:memS (a.take i) a[i]
   .rw[h2]at b hm;have d:=of_decide_eq_false hm;refine wx ?_;simp -dsimp[hb];refine sTx ?_;refine cQx c ?_;simp -dsimp[hb,(ω:i<=a.length)];refine cQx e ?_;simp -dsimp[(ω:¬0<=ixS (a.take i) a[i] 0),aE i ω];refine j (i+1) _ _ ⟨ω,fL hall (by rw[b];rfl)⟩ ω ?_ ⟨[],?_⟩ ?_ ?_<;>simp[or_imp,forall_and,L1,aG]
   .rw[h2]at b hm;have d:=of_decide_eq_true hm;refine wx ?_;simp -dsimp[hb];refine sTx ?_;refine cQx c ?_;simp -dsimp[hb,(ω:i<=a.length)];refine cQx e ?_;simp -dsimp[d];apply g;simp -dsimp;exact⟨_,hb,b⟩
 .obtain rfl:i=a.length:=by omega
  refine wx ?_;simp -dsimp[hb];apply g;simp -dsimp;simpa using hall
structure Vl where
 k:Int
 n:Int
 s:ByteArray
def aP(v:Vl):V:=.agg [.int .i64 v.k,.int .i64 v.n,.str v.s]
def LV(f:Bool)(vs:List Vl):V:=.lst 3 f (vs.map aP)
@[simp] theorem encV_pure (v:Vl):AM.Pure (aP v):=by simp[aP]
@[simp] theorem LV_pure (f:Bool) (vs:List Vl):AM.Pure (LV f vs):=by simp[LV]
@[simp] theorem encV_oneV (v:Vl):cC (aP v)=true:=rfl
def bO(v:Vl):Bool :=
 if v.k=0 then decide (v.n=0)&&v.s.toList.isEmpty else if v.k=1 then v.s.toList.isEmpty else
 if v.k=2 then decide (v.n=0)&&decide (v.s.size<=200) else decide (v.k=3)&&(decide (1<=v.n)&&v.s.toList.isEmpty)
def valid01(v:Vl):aK prog 131 [aP v] fun r=>r = .bool (bO v):=by
 unfold bO;by_cases h0:v.k=0
 .by_cases hn:v.n=0
  .rw[if_pos h0,decide_eq_true hn,uF];refine sPx func131 ?_;simp -dsimp[f131,tg,aP,h0,hn]
  .rw[if_pos h0,decide_eq_false hn,uE];refine sPx func131 ?_;simp -dsimp[f131,tg,aP,h0,hn]
 .rw[if_neg h0];by_cases h1:v.k=1
  .rw[if_pos h1];refine sPx func131 ?_;simp -dsimp[f131,tg,aP,h1]
  .rw[if_neg h1];by_cases h2:v.k=2
   .rw[if_pos h2];by_cases hn:v.n=0
    .rw[decide_eq_true hn,uF];by_cases hz:v.s.size<=200
     .rw[decide_eq_true hz];refine sPx func131 ?_;simp -dsimp[f131,tg,aP,h2,hn,(ω:(v.s.size:Int)<=200)]
     .rw[decide_eq_false hz];refine sPx func131 ?_;simp -dsimp[f131,tg,aP,h2,hn,(ω:¬(v.s.size:Int)<=200)]
    .rw[decide_eq_false hn,uE];refine sPx func131 ?_;simp -dsimp[f131,tg,aP,h2,hn]
   .rw[if_neg h2];by_cases a:v.k=3
    .rw[decide_eq_true a,uF];by_cases hn:1<=v.n
     .rw[decide_eq_true hn,uF];refine sPx func131 ?_;simp -dsimp[f131,tg,aP,a,hn]
     .rw[decide_eq_false hn,uE];refine sPx func131 ?_;simp -dsimp[f131,tg,aP,a,hn]
    .rw[decide_eq_false a,uE];refine sPx func131 ?_;simp -dsimp[f131,tg,aP,h0,h1,h2,a]
def mO(v:Vl):aK prog 95 [aP v] fun r=>r = .bool (bO v):=by
 unfold bO;by_cases h0:v.k=0
 .by_cases hn:v.n=0
  .rw[if_pos h0,decide_eq_true hn,uF];refine sPx func95 ?_;simp -dsimp[f95,tg,aP,h0,hn]
  .rw[if_pos h0,decide_eq_false hn,uE];refine sPx func95 ?_;simp -dsimp[f95,tg,aP,h0,hn]
 .rw[if_neg h0];by_cases h1:v.k=1
  .rw[if_pos h1];refine sPx func95 ?_;simp -dsimp[f95,tg,aP,h1]
  .rw[if_neg h1];by_cases h2:v.k=2
   .rw[if_pos h2];by_cases hn:v.n=0
    .rw[decide_eq_true hn,uF];by_cases hz:v.s.size<=200
     .rw[decide_eq_true hz];refine sPx func95 ?_;simp -dsimp[f95,tg,aP,h2,hn,(ω:(v.s.size:Int)<=200)]
     .rw[decide_eq_false hz];refine sPx func95 ?_;simp -dsimp[f95,tg,aP,h2,hn,(ω:¬(v.s.size:Int)<=200)]
    .rw[decide_eq_false hn,uE];refine sPx func95 ?_;simp -dsimp[f95,tg,aP,h2,hn]
   .rw[if_neg h2];by_cases a:v.k=3
    .rw[decide_eq_true a,uF];by_cases hn:1<=v.n
     .rw[decide_eq_true hn,uF];refine sPx func95 ?_;simp -dsimp[f95,tg,aP,a,hn]
     .rw[decide_eq_false hn,uE];refine sPx func95 ?_;simp -dsimp[f95,tg,aP,a,hn]
    .rw[decide_eq_false a,uE];refine sPx func95 ?_;simp -dsimp[f95,tg,aP,h0,h1,h2,a]
def any_drop(p:Vl->Bool)(vs:List Vl)(i:Nat)(h:i<vs.length):(vs.drop i).all p=(p vs[i]&&(vs.drop (i+1)).all p):=by rw[th h];rfl
def valids01(vs:List Vl)(f:Bool)(hl:vs.length<=1000000):aK prog 83 [LV f vs] fun r=>r = .bool (vs.all bO):=by
 obtain⟨E,b⟩:=ξ (vs.all bO);rw[<-b];refine sPx func83 ?_;simp -dsimp[f83,tg,LV];refine aI (W_loopM 16 0xfffc zMx (σ:=Nat) (fun i=>(vs.drop i).all bO=E) (fun i=>vs.length-i) (fun i=>[(3,.int .i64 i)]) (fun _=>[]) 0 (by rw[uG,b]) ζ rfl ζ ?_);rintro i hx N Q d c;by_cases hb:i<vs.length
 .rw[any_drop _ _ _ hb]at hx;have a:=valid01 vs[i];cases h1:bO vs[i]
  .rw[h1]at a;rw[h1,uE]at hx;refine wx ?_;simp -dsimp[hb];refine cPx a ?_;simp -dsimp;apply c;simp -dsimp;simpa using hx
  .rw[h1]at a;rw[h1,uF]at hx;refine wx ?_;simp -dsimp[hb];refine cPx a ?_;simp -dsimp[aE i ω];refine d (i+1) _ _ hx ω ζ ⟨[],rfl⟩ ζ ζ
 .rw[tj ω]at hx;refine wx ?_;simp -dsimp[hb];apply c;simp -dsimp;simpa using hx
def ixV(p:Vl->Bool)(vs:List Vl)(i:Nat):Int:=if h:i<vs.length then(if p vs[i] then(i:Int) else ixV p vs (i+1)) else -1
termination_by vs.length-i
def ixV_any(p:Vl->Bool)(vs:List Vl)(i:Nat):decide (0<=ixV p vs i)=(vs.drop i).any p:=by
 fun_induction ixV p vs i with
 | case1 i h h0=>rw[th h,vi,h0];simp
 | case2 i h h0 a=>rw[th h,vi,a];simp[h0]
 | case3 i h=>rw[tj ω];rfl
def idxFuncV(H:List B)(c:V)(p:Vl->Bool)(vs:List Vl)(g:Bool)(f:vs.length<=1000000)(h:∀bl∈H,rbB H.length bl)(b:rb H.length c)
  (hp:∀m∈vs,aM prog c [aP m] H fun r H'=>r = .bool (p m)/\H'=H):ak prog 147 [LV g vs,c] H fun r H'=>r = .int .i64 (ixV p vs 0)/\H'=H:=by
 refine aH tok func147 rfl rfl ?_;refine wx ?_;simp -dsimp[f147,tg,LV];refine aI (W_loopM 19 0x7ff30 zMx (σ:=Nat) (fun i=>ixV p vs i=ixV p vs 0) (fun i=>vs.length-i) (fun i=>[(8,.int .i64 i)]) (fun _=>H) 0 rfl ζ rfl ζ ?_);intro i hx N Q e d;by_cases hb:i<vs.length
 .rw[ixV,dif_pos hb]at hx;have a:=hp vs[i] (ti hb);cases hq:p vs[i]
  .rw[hq]at a hx;refine wx ?_;simp -dsimp[hb];refine a.mono ?_;rintro r H' ⟨rfl,rfl⟩;simp -dsimp[aE i ω];refine e (i+1) _ _ (by simpa using hx) ω ζ ⟨[],ζ⟩ (by simp;exact b) h
  .rw[hq]at a hx;refine wx ?_;simp -dsimp[hb];refine a.mono ?_;rintro r H' ⟨rfl,rfl⟩;simp -dsimp;apply d;simp -dsimp;simpa using hx
 .rw[ixV,dif_neg hb]at hx;refine wx ?_;simp -dsimp[hb];apply d;simp -dsimp;simpa using hx
def contFuncV(H:List B)(a:V)(p:Vl->Bool)(vs:List Vl)(g:Bool)(c:vs.length<=1000000)(e:∀bl∈H,rbB H.length bl)(b:rb H.length a)
  (hp:∀m∈vs,aM prog a [aP m] H fun r H'=>r = .bool (p m)/\H'=H):ak prog 93 [LV g vs,a] H fun r H'=>r = .bool (vs.any p)/\H'=H:=by
 have h0:=ixV_any p vs 0;rw[uG]at h0;have d:=idxFuncV H a p vs g c e b hp;refine aH tok func93 rfl rfl ?_;refine wx ?_;simp -dsimp[f93,tg];refine aM.mono (K:=fun r H'=>r = .int .i64 (ixV p vs 0)/\H'=H) d ?_;rintro r H' ⟨rfl,rfl⟩;simp -dsimp;rw[<-h0]
def notValid(v:Vl):aK prog 94 [aP v] fun r=>r = .bool (!bO v):=by
 have a:=mO v;simp only[aP]at a;refine sPx func94 ?_;simp -dsimp[f94,tg,aP];refine cPx a ?_;simp -dsimp
def validVals(vs:List Vl)(f:Bool)(hl:vs.length<=1000000):aK prog 51 [LV f vs] fun r=>r = .bool (vs.all bO):=by
 have b:=contFuncV [] (.fn 94 []) (fun v=>!bO v) vs f hl ζ ζ (fun m _=>bQ (notValid m) ζ)
 have he:vs.all bO = !vs.any fun v=>!bO v:=by
  induction vs with
  | nil=>rfl
  | cons v vs a=>simp only[vE,vi,Bool.not_or,Bool.not_not];rw[a (by simp at hl;omega) (contFuncV [] (.fn 94 []) (fun v=>!bO v) vs f (by simp at hl;omega) ζ ζ (fun m _=>bQ (notValid m) ζ))]
 rw[he];refine sPx func51 ?_;simp -dsimp[f51,tg];refine aM.mono (K:=fun r H'=>r = .bool (vs.any fun v=>!bO v)/\H'=[]) b ?_;rintro r H' ⟨rfl,rfl⟩;simp -dsimp
structure Rw where
 id:Int
 vals:List Vl
structure Tb where
 name:ByteArray
 attrs:List ByteArray
 rows:List Rw
def aF(r:Rw):V:=.agg [.int .i64 r.id,LV false r.vals]
def LR(g:Bool)(rs:List Rw):V:=.lst 2 g (rs.map aF)
def aD(f g:Bool)(t:Tb):V:=.agg [.str t.name,LS f t.attrs,LR g t.rows]
@[simp] theorem encRw_pure (r:Rw):AM.Pure (aF r):=by simp[aF]
@[simp] theorem LR_pure (g:Bool) (rs:List Rw):AM.Pure (LR g rs):=by simp[LR]
@[simp] theorem encTb_pure (f g:Bool) (t:Tb):AM.Pure (aD f g t):=by simp[aD]
@[simp] theorem encRw_oneV (r:Rw):cC (aF r)=true:=rfl
def dQ(n:Nat):Int->List Rw->Int
 | _,[]=>0
 | last,r::rs=>if r.id<=last then 1 else if r.vals.length≠n then 6 else if r.vals.all bO then dQ n r.id rs else 1
def validT(t:Tb):Int:=if cJ t.name then(if 16<t.attrs.length\/1000<t.rows.length then 3 else if iT t.attrs then dQ t.attrs.length 0 t.rows else 1) else 1
structure TbOk (t:Tb):Prop where
 name:t.name.size<=maxLen
 attrs:t.attrs.length<=1000000
 rows:t.rows.length<=1000000
 strs:∀s∈t.attrs,s.size<=maxLen
def jF(t:Tb)(f g:Bool)(h:TbOk t):aK prog 42 [aD f g t] fun r=>r = .int .i64 (validT t):=by
 obtain⟨hn,ha,hr,hs⟩:=h;have a:=rt t.name hn;cases h1:cJ t.name
 .rw[h1]at a;rw[show validT t=1 by simp[validT,h1]];refine sPx func42 ?_;simp -dsimp[f42,tg,aD,LR,LS];refine cPx a ?_;simp -dsimp
 .rw[h1]at a;by_cases h2:16<t.attrs.length
  .rw[show validT t=3 by simp[validT,h1,h2]];refine sPx func42 ?_;simp -dsimp[f42,tg,aD,LR,LS];refine cPx a ?_;simp -dsimp[(ω:(16:Int)<t.attrs.length)]
  .by_cases m:1000<t.rows.length
   .rw[show validT t=3 by simp[validT,h1,m]];refine sPx func42 ?_;simp -dsimp[f42,tg,aD,LR,LS];refine cPx a ?_;simp -dsimp[(ω:¬(16:Int)<t.attrs.length),(ω:(1000:Int)<t.rows.length)]
   .have c:=names03 t.attrs f ha hs;simp only[LS]at c;cases l:iT t.attrs
    .rw[l]at c;rw[show validT t=1 by simp[validT,h1,h2,m,l]];refine sPx func42 ?_;simp -dsimp[f42,tg,aD,LR,LS];refine cPx a ?_;simp -dsimp[(ω:¬(16:Int)<t.attrs.length),(ω:¬(1000:Int)<t.rows.length)];refine cPx c ?_;simp -dsimp
    .rw[l]at c
     have s:dQ t.attrs.length 0 t.rows=validT t:=by simp[validT,h1,h2,m,l]
     obtain⟨E,o⟩:=ξ (validT t);rw[<-o]at s ⊢;refine sPx func42 ?_;simp -dsimp[f42,tg,aD,LR,LS];refine cPx a ?_;simp -dsimp[(ω:¬(16:Int)<t.attrs.length),(ω:¬(1000:Int)<t.rows.length)];refine cPx c ?_;simp -dsimp;refine aI (W_loopM 53 0x1fffffff00003c zMx (σ:=Nat×Int) (fun p=>p.1<=t.rows.length/\dQ t.attrs.length p.2 (t.rows.drop p.1)=E) (fun p=>t.rows.length-p.1) (fun p=>[(4,.int .i64 p.1),(3,.int .i64 p.2)]) (fun _=>[B.cells [.str t.name,LS f t.attrs,LR g t.rows]]) (0,0) ⟨ζ,s⟩ ζ (by simp[LS,LR]) ζ ?_);rintro⟨i,e⟩ ⟨hi,hx⟩ N Q q j;simp only at hi hx q;by_cases hb:i<t.rows.length
     .rw[th hb]at hx;simp only[dQ]at hx;by_cases d:t.rows[i].id<=e
      .rw[if_pos d]at hx;refine wx ?_;simp -dsimp[hb,LS,LR,aF,d,LV];apply j;simp -dsimp;exact hx
      .rw[if_neg d]at hx;by_cases k:t.rows[i].vals.length=t.attrs.length
       .rw[if_neg (fun h=>h k)]at hx;have b:=valids01 t.rows[i].vals false ω;cases n:t.rows[i].vals.all bO
        .rw[n]at b hx;refine wx ?_;simp -dsimp[hb,LS,LR,aF,d,LV,k];simp only[LV]at b;refine cPx b ?_;simp -dsimp;apply j;simp -dsimp;simpa using hx
        .rw[n,if_pos rfl]at hx;rw[n]at b;refine wx ?_;simp -dsimp[hb,LS,LR,aF,d,LV,k];simp only[LV]at b;refine cPx b ?_;simp -dsimp[aE i ω];refine q (i+1,t.rows[i].id) _ _ ⟨χ,hx⟩ ω ?_ ⟨[B.cells [.int .i64 t.rows[i].id,LV false t.rows[i].vals]],?_⟩ ?_ ?_<;>simp[or_imp,forall_and,L1,aG,LS,LR,LV]
       .rw[if_pos k]at hx;refine wx ?_;simp -dsimp[hb,LS,LR,aF,d,LV,(ω:¬(t.rows[i].vals.length:Int)=t.attrs.length)];apply j;simp -dsimp;exact hx
     .rw[tj ω]at hx;refine wx ?_;simp -dsimp[hb,LS,LR];apply j;simp -dsimp;exact hx
def gP(t:Tb)(f g:Bool)(h:TbOk t):aK prog 26 [aD f g t] fun r=>r = .int .i64 (validT t):=by
 obtain⟨hn,ha,hr,hs⟩:=h;have c:=sF t.name hn;cases h1:cJ t.name
 .rw[h1]at c;rw[show validT t=1 by simp[validT,h1]];refine sPx func26 ?_;simp -dsimp[f26,tg,aD,LR,LS];refine cPx c ?_;simp -dsimp
 .rw[h1]at c;by_cases h2:16<t.attrs.length
  .rw[show validT t=3 by simp[validT,h1,h2]];refine sPx func26 ?_;simp -dsimp[f26,tg,aD,LR,LS];refine cPx c ?_;simp -dsimp[(ω:(16:Int)<t.attrs.length)]
  .by_cases y:1000<t.rows.length
   .rw[show validT t=3 by simp[validT,h1,y]];refine sPx func26 ?_;simp -dsimp[f26,tg,aD,LR,LS];refine cPx c ?_;simp -dsimp[(ω:¬(16:Int)<t.attrs.length),(ω:(1000:Int)<t.rows.length)]
   .have o:(if iT t.attrs then dQ t.attrs.length 0 t.rows else 1)=validT t:=by simp[validT,h1,h2,y]
    obtain⟨E,w⟩:=ξ (validT t);rw[<-w]at o ⊢;refine sPx func26 ?_;simp -dsimp[f26,tg,aD,LR,LS];refine cPx c ?_;simp -dsimp[(ω:¬(16:Int)<t.attrs.length),(ω:¬(1000:Int)<t.rows.length)];refine aI (W_loopM 42 0x3fffe00001c zMx (σ:=Nat) (fun i=>i<=t.attrs.length/\(tr i).all (nmAt t.attrs)=true) (fun i=>t.attrs.length-i) (fun i=>[(25,.int .i64 i)]) (fun _=>[B.cells [.str t.name,LS f t.attrs,LR g t.rows]]) 0 ⟨ω,rfl⟩ ζ (by simp[LS,LR]) ζ ?_);rintro i ⟨hi,hall⟩ N Q z u;by_cases hb:i<t.attrs.length
    .have x:sAt t.attrs i=t.attrs[i]:=by simp[sAt,hb]
     have a:nmAt t.attrs i=(cJ t.attrs[i]&&!memS (t.attrs.take i) t.attrs[i]):=by unfold nmAt;rw[x]
     have e:=sF t.attrs[i] (hs _ (ti hb));have d:=containsS (t.attrs.take i) t.attrs[i] (f&&i == t.attrs.length) χ;simp only[LS,wM]at d;cases l:cJ t.attrs[i]
     .rw[l,uE]at a;rw[l]at e;rw[show iT t.attrs=false from allno hb a]at o;refine wx ?_;simp -dsimp[hb,LS,LR];refine cPx e ?_;simp -dsimp;apply u;simp -dsimp;simpa using o
     .rw[l,uF]at a;rw[l]at e;cases n:memS (t.attrs.take i) t.attrs[i]
      .rw[n]at d a;refine wx ?_;simp -dsimp[hb,LS,LR];refine cPx e ?_;simp -dsimp[(ω:i<=t.attrs.length)];refine cPx d ?_;simp -dsimp[aE i ω];refine z (i+1) _ _ ⟨ω,fL hall (by rw[a];rfl)⟩ ω ?_ ⟨[],?_⟩ ?_ ?_<;>simp[or_imp,forall_and,L1,aG,LS,LR]
      .rw[n]at d a;rw[show iT t.attrs=false from allno hb a]at o;refine wx ?_;simp -dsimp[hb,LS,LR];refine cPx e ?_;simp -dsimp[(ω:i<=t.attrs.length)];refine cPx d ?_;simp -dsimp;apply u;simp -dsimp;simpa using o
    .obtain rfl:i=t.attrs.length:=by omega
     rw[show iT t.attrs=true from hall,if_pos rfl]at o;refine wx ?_;simp -dsimp[hb,LS,LR];apply u;simp -dsimp[LS,LR];refine aI (W_loopM 70 0x3fffffe000000000a4 zMx (σ:=Nat×Int) (fun p=>p.1<=t.rows.length/\dQ t.attrs.length p.2 (t.rows.drop p.1)=E) (fun p=>t.rows.length-p.1) (fun p=>[(45,.int .i64 p.1),(5,.int .i64 p.2)]) (fun _=>[B.cells [.str t.name,LS f t.attrs,LR g t.rows]]) (0,0) ⟨ζ,o⟩ ζ (by simp[LS,LR]) ζ ?_);rintro⟨j,q⟩ ⟨A,hx⟩ D C s m;simp only at A hx s;by_cases b:j<t.rows.length
     .rw[th b]at hx;simp only[dQ]at hx;by_cases l:t.rows[j].id<=q
      .rw[if_pos l]at hx;refine wx ?_;simp -dsimp[b,LS,LR,aF,l,LV];apply m;simp -dsimp;exact hx
      .rw[if_neg l]at hx;by_cases n:t.rows[j].vals.length=t.attrs.length
       .rw[if_neg (fun h=>h n)]at hx;have k:=validVals t.rows[j].vals false ω;simp only[LV]at k;cases v:t.rows[j].vals.all bO
        .rw[v]at k hx;refine wx ?_;simp -dsimp[b,LS,LR,aF,l,LV,n];refine cPx k ?_;simp -dsimp;apply m;simp -dsimp;simpa using hx
        .rw[v,if_pos rfl]at hx;rw[v]at k;refine wx ?_;simp -dsimp[b,LS,LR,aF,l,LV,n];refine cPx k ?_;simp -dsimp[aE j ω];refine s (j+1,t.rows[j].id) _ _ ⟨χ,hx⟩ ω ?_ ⟨[B.cells [.int .i64 t.rows[j].id,LV false t.rows[j].vals]],?_⟩ ?_ ?_<;>simp[or_imp,forall_and,L1,aG,LS,LR,LV]
       .rw[if_pos n]at hx;refine wx ?_;simp -dsimp[b,LS,LR,aF,l,LV,(ω:¬(t.rows[j].vals.length:Int)=t.attrs.length)];apply m;simp -dsimp;exact hx
     .rw[tj ω]at hx;refine wx ?_;simp -dsimp[b,LS,LR];apply m;simp -dsimp;exact hx
def ofV(m:Int):Vl :=
 if m=0 then⟨1,0,tp⟩ else
 if m=1 then⟨1,1,tp⟩ else
 if m=2 then⟨1,2,tp⟩ else
 if m=3 then⟨0,0,tp⟩ else
 if m=4 then⟨2,0,⟨#[97]⟩⟩ else
 if m=5 then⟨2,0,⟨#[98]⟩⟩ else
 if m=6 then⟨2,0,tp⟩ else
 if m=7 then⟨3,1,tp⟩ else
 if m=8 then⟨1,-1,tp⟩ else
 if m=9 then⟨2,0,⟨#[97,98]⟩⟩ else
 if m=10 then⟨3,2,tp⟩ else
 ⟨1,7,tp⟩
def ofC(c:Int):Vl:=ofV (c.tmod 12)
def of01(c:Int):aK prog 24 [.int .u8 c] fun r=>r=aP (ofC c):=by
 unfold ofC;obtain⟨m,hm⟩:=ξ (c.tmod 12);rw[<-hm];have hm:=hm.symm;by_cases h0:m=0
 .have e:ofV m=ofV 0:=by rw[h0]
  rw[e];refine sPx func24 ?_;simp -dsimp[f24,tg,hm,h0];rfl
 by_cases h1:m=1
 .have e:ofV m=ofV 1:=by rw[h1]
  rw[e];refine sPx func24 ?_;simp -dsimp[f24,tg,hm,h1];rfl
 by_cases h2:m=2
 .have e:ofV m=ofV 2:=by rw[h2]
  rw[e];refine sPx func24 ?_;simp -dsimp[f24,tg,hm,h2];rfl
 by_cases b:m=3
 .have e:ofV m=ofV 3:=by rw[b]
  rw[e];refine sPx func24 ?_;simp -dsimp[f24,tg,hm,b];rfl
 by_cases j:m=4
 .have e:ofV m=ofV 4:=by rw[j]
  rw[e];refine sPx func24 ?_;simp -dsimp[f24,tg,hm,j];rfl
 by_cases g:m=5
 .have e:ofV m=ofV 5:=by rw[g]
  rw[e];refine sPx func24 ?_;simp -dsimp[f24,tg,hm,g];rfl
 by_cases h:m=6
 .have e:ofV m=ofV 6:=by rw[h]
  rw[e];refine sPx func24 ?_;simp -dsimp[f24,tg,hm,h];rfl
 by_cases d:m=7
 .have e:ofV m=ofV 7:=by rw[d]
  rw[e];refine sPx func24 ?_;simp -dsimp[f24,tg,hm,d];rfl
 by_cases i:m=8
 .have e:ofV m=ofV 8:=by rw[i]
  rw[e];refine sPx func24 ?_;simp -dsimp[f24,tg,hm,i];rfl
 by_cases f:m=9
 .have e:ofV m=ofV 9:=by rw[f]
  rw[e];refine sPx func24 ?_;simp -dsimp[f24,tg,hm,f];rfl
 by_cases a:m=10
 .have e:ofV m=ofV 10:=by rw[a]
  rw[e];refine sPx func24 ?_;simp -dsimp[f24,tg,hm,a];rfl
 have e:ofV m=⟨1,7,tp⟩:=by unfold ofV;simp[h0,h1,h2,b,j,g,h,d,i,f,a]
 rw[e];refine sPx func24 ?_;simp -dsimp[f24,tg,hm,h0,h1,h2,b,j,g,h,d,i,f,a];rfl
end
end Go.Proofs.YtnaokiodhoadjaaGreatDoor
