/- JM34: own texts of this seat, joined and shortened by pack4.py: Rix. -/
import Derived.Test.YtdnhplencamncaaGreatDoorJM11
set_option linter.unusedVariables false
set_option linter.unusedSimpArgs false
set_option maxRecDepth 100000
set_option maxHeartbeats 64000000
open Array renaming getElem?_append→pd,getElem?_setIfInBounds_ne→qJ,replicate→qq,getElem?_replicate→qx
open List renaming replicate→oE,getElem?_eq_getElem→oG,mem_of_getElem?→oH,getElem_mem→oI,getElem?_append_left→oL,range→oM,getElem?_set_ne→oQ,getElem?_append_right→oS,getElem?_set_self→oX,getElem?_map→oc,eq_of_mem_replicate→pi,getD_eq_getElem?_getD→pj,getElem?_range→qZ
open Nat renaming le_refl→oJ,min_eq_left→qE
open Option renaming getD_some→qG
namespace Go.AM
section
open Go Go.RowKit
section
section
variable {F:Fence} {n:Nat} {P:Program}
def SeqIx(F:Fence)(n:Nat)(P:Program)(g:Nat)(lb:Array Value)(encs:Nat→Array Value)(Kp:World→World→Prop)(N:Nat)(w:World):Prop :=
 ∀(l:Nat) (J:Nat→World→Prop) (W:World),Below w.heap.size w W→AbidesFrom W.heap.size J →
  (∀k W1,J k W1→k<N→YieldAt F (n-1) P l (encs k) W1 fun e W'=>e = .returned (.bool true)∧J (k+1) W'∧Kp W1 W')→J 0 W →
  CallsIn F n P g (#[.func (.yield l) #[] #[]]++lb) W fun e W'=>(∃v,e = .returned v)∧J N W'
def postIx(Kp:World→World→Prop)(I:Nat→World→Prop)(k:Nat)(W:World):Exit→Act→World→Prop
 | .normal,_,W'=>KeepsOthers W W'∧Kp W W'∧I k W'
 | _,_,_=>False
theorem jM{g:Operand}{ps:Array Tmp}{assign body:Code}{Q:Exit→Act→World→Prop}{a:Act}{w:World}
  (hro:F.round=none) (h1:1≤n) {gf:Nat} {lb:Array Value} (hg:a.eval g = .func (.func gf) #[] lb) (hFg:F.fn gf) (eg:∀args w,(callFunc gf args).run P w = .ok (.enter gf args) w)
  {encs:Nat→Array Value} {Kp:World→World→Prop} {N:Nat} {w0:World} (hseq:SeqIx F (n-1) P gf lb encs Kp N w0)
  (hKt:∀{A B C:World},Kp A B→Kp B C→Kp A C) (hKb:∀(W:World) (l:Nat) (o o':Obj),w.heap.size≤l→W.heap[l]?=some o→o.isCells=false→o.isWalk=false→Kp W (W.putObj l o')) (hb0:Below w0.heap.size w0 w) (hps:∀x,(encs x).size=ps.size)
  (I:Nat→World→Prop) (hI:OwnFrom w.heap.size I) (h0:I 0 w) (IB:Nat→Act→World→Prop) (hIB:∀a,OwnFrom w.heap.size (fun k W=>IB k a W))
  (hassign:∀(l:Nat) (k:Nat) (W:World),I k W→k<N →
   assign.wpIn (F.inRound l) (n-1-1) P (Exit.then (fun a1 W1=>KeepsOthers W W1∧Kp W W1∧IB k a1 W1) (fun _ _ _=>False)) { tmps:=(ps.zip (encs k)).foldl (fun t (p,v)=>t.setIfInBounds p v) a.tmps,defers:=[] } W)
  (hbody:∀(l:Nat) (k:Nat) (a1:Act) (W:World),IB k a1 W→k<N→body.wpIn (F.inRound l) (n-1-1) P (postIx Kp I (k+1) W) a1 W)
  (hdone:∀(D:Nat) (W:World),w.heap.size≤D→I N W→W.heap[D]?=some (.deferred (some []))→Q .normal { a with defers:={ target:=.collected D,args:=#[] }::a.defers } W):
  (Code.rangeFunc g ps assign body).wpIn F n P Q a w:=by
 refine wpIn_rangeFunc ?_;intro fn hfn;rw[hro]
 obtain⟨rec,hrec⟩:∃rec:LoopState→Option Code→Loop,rec=fun st pe=>{ state:=st,pending:=pe,fn,tmps:=a.tmps,params:=ps,assign,body,defers:=w.heap.size }:=⟨_,rfl⟩
 obtain⟨W1,hW1⟩:∃W1,(w.alloc (.deferred (some []))).alloc (.loop (rec .ready none))=W1:=⟨_,rfl⟩
 have hL1:W1.heap[w.heap.size+1]?=some (.loop (rec .ready none)):=by
  rw[←hW1];have:=World.alloc_heap_new (w.alloc (.deferred (some []))) (.loop (rec .ready none));rwa [World.size_alloc]at this
 have hK1:W1.heap[w.heap.size]?=some (.deferred (some [])):=by
  rw[←hW1];exact(Below.heap_alloc _ _ _ (by simp)).trans (World.alloc_heap_new w _)
 have hI1:I 0 W1:=by rw[←hW1];exact hI.alloc _ (hI.alloc _ h0)
 have hb1:Below w0.heap.size w0 W1:=by
  rw[←hW1];exact hb0.trans ((((Below.refl _ w).alloc (oJ _) _).alloc (by simp) _).mono hb0.size)
 refine⟨w.heap.size+1,[{ target:=.collected w.heap.size,args:=#[] }],W1,{ target:=.fn (.func gf) lb,args:=#[.func (.yield (w.heap.size+1)) #[] #[]] },W1,gf,
  #[.func (.yield (w.heap.size+1)) #[] #[]]++lb,W1,?_,?_,?_,?_,fun _=>h1,?_⟩
 ·rw[←hW1,hrec];exact run_enterLoop_outer _ _ _ _ _
 ·simp only[resolve,hg];simp[go_sem]
 ·intro f' hf';simp[Target.leads]at hf';subst hf';exact hFg
 ·simp[invoke,go_sem,eg]
 ·have hnw:∀{A B:World} {row:Option Nat},(∀r,row=some r→W1.heap.size≤r∧∃o:Obj,A.heap[r]?=some o∧o.isWalk=true)→(∀r,row=some r→w.heap.size≤r∧∃o:Obj,A.heap[r]?=some o∧o.isCells=false):=
   fun hr r e=>by obtain⟨hB,o,ho,hw⟩:=hr r e;exact⟨by rw[←hW1]at hB;simp at hB;omega,o,ho,Obj.not_cells_of_walk hw⟩
  refine(hseq (w.heap.size+1)
   (fun k W=>I k W∧W.heap[w.heap.size+1]?=some (.loop (rec .ready none))∧W.heap[w.heap.size]?=some (.deferred (some [])))
   W1 hb1
   (fun s A B row hs hg' hr=>⟨hI s A B row hs.1 hg' (hnw (B:=B) hr),(grownBy_keeps hg' (fun r e=>(hr r e).2) hs.2.1 rfl).trans hs.2.1,(grownBy_keeps hg' (fun r e=>(hr r e).2) hs.2.2 rfl).trans hs.2.2⟩)
   ?_ ⟨hI1,hL1,hK1⟩).mono ?_
  ·rintro k W ⟨hi,hl,hk⟩ hlen;have hlt:w.heap.size+1<W.heap.size:=(Array.getElem?_eq_some_iff.1 hl).1;have hy:=run_yield (P:=P) (args:=encs k) hl (by rw[hrec];exact hps k);rw[hrec]at hy;refine⟨fn,_,assign,body,hy,roundIn_of_wpIn hfn (wpIn_mono (hassign _ k W hi hlen) ?_)⟩;rintro e0 a0 V0 hp0
   have hen:e0 = .normal:=by cases e0<;>first | rfl | exact hp0.elim
   subst hen;obtain⟨hkA,hkpA,hib⟩:=hp0;have hlA:=hkA.same _ _ hl rfl;have hkA2:=hkA.same _ _ hk rfl;have hltA:w.heap.size+1<V0.heap.size:=(Array.getElem?_eq_some_iff.1 hlA).1;refine⟨_,run_beginRound hlA (by rw[hrec]),?_⟩;have hl2:(V0.putObj (w.heap.size+1) (.loop { rec .ready none with state:=.busy })).heap[w.heap.size+1]?=some (.loop { rec .ready none with state:=.busy }):=World.putObj_heap_same hltA;have hk2:(V0.putObj (w.heap.size+1) (.loop { rec .ready none with state:=.busy })).heap[w.heap.size]?=some (.deferred (some [])):=(World.putObj_heap_other (by omega)).trans hkA2;have hw2:Kp W (V0.putObj (w.heap.size+1) (.loop { rec .ready none with state:=.busy })):=hKt hkpA (hKb _ _ _ _ (by omega) hlA rfl rfl);refine wpIn_mono (hbody _ k a0 _ ((hIB a0).putObj _ hib (by omega) hlA rfl) hlen) ?_
   have fin:∀(jump:Option Code) (W3:World),KeepsOthers (V0.putObj (w.heap.size+1) (.loop { rec .ready none with state:=.busy })) W3 →
     (Instr.endRound (w.heap.size+1) jump).run P W3 = .ok (.bool jump.isNone) (W3.putObj (w.heap.size+1) (.loop (rec (if jump.isNone then .ready else .done) jump)))∧
     W3.heap[w.heap.size+1]?=some (.loop { rec .ready none with state:=.busy })∧
     (W3.putObj (w.heap.size+1) (.loop (rec (if jump.isNone then .ready else .done) jump))).heap[w.heap.size+1]?=some (.loop (rec (if jump.isNone then .ready else .done) jump))∧
     (W3.putObj (w.heap.size+1) (.loop (rec (if jump.isNone then .ready else .done) jump))).heap[w.heap.size]?=some (.deferred (some [])):=fun jump W3 hk3=>by
    have hl3:=hk3.same _ _ hl2 rfl;have:=run_endRound (P:=P) jump hl3;rw[hrec]at this ⊢;exact⟨this,by rw[hrec]at hl3;exact hl3,World.putObj_heap_same (Array.getElem?_eq_some_iff.1 hl3).1,(World.putObj_heap_other (by omega)).trans (hk3.same _ _ hk2 rfl)⟩
   rintro e a3 W3 hp
   cases e with
   | normal =>
    obtain⟨hk3,hkp3,hi3⟩:=hp;obtain⟨hr,hl3,hl4,hk4⟩:=fin none W3 hk3;exact⟨_,_,hr,rfl,⟨hI.putObj _ hi3 (by omega) hl3 rfl,hl4,hk4⟩,hKt (hKt hw2 hkp3) (hKb _ _ _ _ (by omega) hl3 rfl rfl)⟩
   | ret=>exact hp.elim
   | exit id=>exact hp.elim
   | goto t=>exact hp.elim
   | panic ch=>exact hp.elim
   | outgrown=>exact hp.elim
  ·rintro e W2 ⟨⟨v,rfl⟩,hi,hl,hk⟩;exact⟨none,_,by have:=run_endLoop (P:=P) hl (by rw[hrec];simp);rw[hrec]at this;exact this,hdone _ _ (oJ _) (hI.putObj _ hi (by omega) hl rfl) ((World.putObj_heap_other (by omega)).trans hk)⟩
end
section
variable {P:Program} {T:Ty}
theorem rel_aggL{s:St}{cs:List V}{us:List Value}(hl:us.length=cs.length)(h1:∀c∈cs,c.one=true)(h:∀(j:Nat) c u,cs[j]?=some c→us[j]?=some u→Rel s c u):Rel s (.agg cs) (.agg us.toArray):=
 .agg cs us.toArray (by simpa using hl) h1 (fun i c u hc hu=>h i c u hc (by simpa using hu))
theorem frel_set{s:St}{fr:List V}{tmps:Array Value}(h:FRel s fr tmps){t:Nat}{v:V}{u:Value}(hv:Rel s v u):FRel s (fr.set t v) (tmps.setIfInBounds t u):=by
 refine⟨by simp[h.len],fun i x y hx hy=>?_⟩;by_cases hi:i=t
 ·subst hi;have hl:=aB hx;simp at hl;rw[oX hl]at hx
  have:i<tmps.size:=by have:=h.len;omega
  simp[this]at hy;cases hx;subst hy;exact hv
 ·rw[oQ (Ne.symm hi)]at hx;rw[qJ (Ne.symm hi)]at hy;exact h.rel i x y hx hy
def KpS(S:Nat→Prop)(A B:World):Prop:=∀x,S x→B.heap[x]?=A.heap[x]?
theorem nf(hT:TOk P T){f:FuncId}{fn:Func}{c0 c1 asg body:Code}{out p0 p1 gf z:Nat}{g:Operand}
  (hf:P.funcs[f]?=some fn) (hb:fn.body=some (.seq c0 (.seq c1 (.block out (.rangeFunc g #[p0,p1] asg body))))) (hn:(fn.name == "runtime.NumGoroutine")=false) (hres:fn.results = #[]) (hne:p0≠p1)
  (eg:∀args w,(callFunc gf args).run P w = .ok (.enter gf args) w)
  {args:List V} {H:List B} (fr1 frM:List V) (hm:iZ frM fr1) (Hs HB:Nat→List B) (frB:Nat→List V) (xs:List V) (fl:Bool) (N:Nat) (hN:N=xs.length)
  (hhead:W P c0 (fun e fr H'=>e = .normal∧W P c1 (fun e fr H'=>e = .normal∧fr=fr1∧H'=Hs 0++[.cells [.lst z fl xs]]) fr H') (args++oE (fn.ntmps-args.length) (.tup [])) H)
  (hg:aO fr1 g = .fn gf [.ptr (Hs 0).length 0]) (hHl:H.length≤(Hs 0).length) (hrb0:∀v∈frM,rb (Hs 0).length v) (hrb:∀k,k≤N→∀bl∈Hs k,rbB (Hs k).length bl) (hlen:∀k,k≤N→(Hs k).length=(Hs 0).length)
  (hnm:∀k,k≤N→NoMap (Hs k)) (hnB:∀k,k<N→NoMap (HB k)) (hx:∀x∈xs,∃cs,x = .agg cs∧cs.length=z∧∀c∈cs,c.one=true∧Pure c)
  (hit:∀(Bs b off cap:Nat) (us:Nat→Nat→Value) (w:World),Bs<w.heap.size→b<w.heap.size→w.cell? ⟨Bs,0,none⟩=some (.slice (if N=0 then none else some ⟨b,off,none⟩) N cap)∨(N=0∧∃A,w.cell? ⟨Bs,0,none⟩=some (.slice A 0 cap))→
   (∀i,i<N→∀j,j<z→w.cell? ⟨b,off+i*z+j,none⟩=some (us i j))→(∀i,i<N→∀j,j<z→(us i j).oneCell'=true)→
   SeqIx Fence.wide 19 P gf #[.pointer (some ⟨Bs,0,none⟩)] (fun k=>#[.int .i64 ((N-1-k:Nat):Int),.agg ((oM z).map (us (N-1-k))).toArray]) (KpS fun x=>x=Bs∨x=b) N w)
  (hasg:∀k,k<N→∀l m,WR P l m asg (fun e fr H'=>e = .normal∧fr=frB k∧H'=HB k) ((frM.set p0 (.int .i64 ((N-1-k:Nat):Int))).set p1 (xs.getD (N-1-k) .undef)) (Hs k))
  (hbody:∀k,k<N→∀l m,WR P l m body (fun e fr H'=>e = .normal∧∃G,H'=Hs (k+1)++G) (frB k) (HB k)):
  aU P f args H fun r H'=>r = .tup []∧H'=Hs N:=by
 refine⟨⟨fn,hf,by rw[hb];rfl,hn⟩,fun s vals hH hgood hsz hrel=>?_⟩;refine(callsIn_wide (n:=20)).1 (callsIn_of_wp_marks hf hb trivial ?_)
 have hfr:FRel s (args++oE (fn.ntmps-args.length) (.tup [])) (vals++qq (fn.ntmps-vals.size) undef):=by
  refine⟨by simp[hsz],fun i v u hv hu=>?_⟩;by_cases hi:i<args.length
  ·rw[oL hi]at hv;rw[pd,if_pos (by omega)]at hu;exact hrel i v u hv hu
  ·rw[oS (by omega)]at hv;rw[pd,if_neg (by omega)]at hu;have e1:=pi (oH hv)
   have e2:u=undef:=by simp[qx]at hu;exact hu.2.symm
   subst e1;subst e2;exact .tup [] #[] rfl (by simp)
 refine wpIn_seq (wpIn_mono (wpIn_wide.2 (hhead s _ hH hgood hfr rfl)) fun e a1 w1 hl=>?_);obtain⟨fr',s1,rfl,g1,st1,f1,d1,rfl,hW1⟩:=hl;have hz1:GOk P s1:=hH.2.step st1;refine wpIn_seq (wpIn_mono (wpIn_wide.2 (hW1 s1 a1 ⟨rfl,hz1⟩ g1 f1 d1)) fun e a2 w2 hl=>?_);obtain⟨fr'',s2,rfl,g2,st2,f2,d2,rfl,hfr1,hH2⟩:=hl;rw[hfr1]at f2;have st02:Step s s2:=st1.trans st2;have hz2:GOk P s2:=hz1.step st2;obtain⟨L,hL⟩:∃L,L=(Hs 0).length:=⟨_,rfl⟩;rw[←hL]at hg hHl hrb0 hlen
 have hkb:s2.H[L]?=some (.cells [.lst z fl xs]):=by rw[hH2,oS (by omega),hL];simp
 obtain⟨_,vs,tt,hv1,hv2,hv3⟩:=g2.blk L _ hkb
 obtain⟨lv,rfl⟩:∃lv,vs = #[lv]:=by
  obtain⟨l⟩:=vs
  match l,hv2 with
  | [a],_=>exact⟨a,rfl⟩
 have hrl:=hv3 0 _ lv rfl rfl;have hge:=f2.eval g;rw[hg]at hge
 obtain⟨lb,hgv,hlb⟩:∃lb:Array Value,a2.eval g = .func (.func gf) #[] lb∧lb = #[.pointer (some ⟨s2.φ L,0,none⟩)]:=by
  generalize a2.eval g=gv at hge
  cases hge with
  | fn _ _ us hl hh =>
   refine⟨us,rfl,?_⟩;obtain⟨l⟩:=us
   match l,hl with
   | [u],_ =>
    have:=hh 0 _ u rfl rfl
    cases this with
    | ptr _ _ cs hk=>rfl
 subst hlb;have hLv:=lvC hkb;have hBs:=g2.lt L hLv;have hcut:s2.H=Hs 0++[.cells [.lst z fl xs]]:=hH2;obtain⟨s3,hs3⟩:∃s3,s3=s2.cut (Hs 0):=⟨_,rfl⟩
 have g3:Good s3:=by rw[hs3];exact fS g2 hcut (hrb 0 (by omega))
 have hw3:s3.w=s2.w:=by rw[hs3];rfl
 have hH3:s3.H=Hs 0:=by rw[hs3];rfl
 have hz3:GOk P s3:=by
  rw[hs3]
  exact hz2.of fun b hb=>⟨cU hcut hb,rfl⟩
 have hstep:∀s',Step s3 s'→Step s s':=fun s' h=>by
  rw[hs3]at h;exact ej g2 hcut h s st02 (by rw[hH.1];omega)
 have f3:FRel s3 frM a2.tmps:=by
  refine⟨by rw[hm.len];exact f2.len,fun i v u hv hu=>?_⟩;have hi:=aB hv;have hv':fr1[i]?=some (fr1[i]'(by rw[←hm.len];exact hi)):=oG _
  rcases hm.at_ i _ _ hv hv' with e | e
  ·rw[e];exact .undef _
  ·have:=f2.rel i _ u hv' hu;rw[←e]at this;rw[hs3];exact gG hcut this (by rw[←hL];exact hrb0 v (oH hv))
 have pBs:s3.Prot (s2.φ L):=by
  rw[hs3];refine⟨hBs.1,hBs.2,fun k hk e=>?_⟩;have hk2:=fF hcut hk;have:=g2.inj k L hk2 hLv e;subst this;have:=hk.1;simp only[St.cut]at this;omega
 obtain⟨b,off,cap,us,hpb,hcase,hcell,hone,hrelE⟩:∃(b off cap:Nat) (us:Nat→Nat→Value),s3.Prot b∧(s3.w.cell? ⟨s2.φ L,0,none⟩=some (.slice (if N=0 then none else some ⟨b,off,none⟩) N cap)∨(N=0∧∃A,s3.w.cell? ⟨s2.φ L,0,none⟩=some (.slice A 0 cap)))∧
   (∀i,i<N→∀j,j<z→s3.w.cell? ⟨b,off+i*z+j,none⟩=some (us i j))∧(∀i,i<N→∀j,j<z→(us i j).oneCell'=true)∧
   ∀i,i<N→∀s',Step s3 s'→Rel s' (xs.getD i .undef) (.agg ((oM z).map (us i)).toArray):=by
  have hcl:s3.w.cell? ⟨s2.φ L,0,none⟩=some lv:=by
   rw[hw3];simp[World.cell?,hv1]
  cases hrl with
  | lst _ _ _ A cap b off u hcap hfull hA hz hcell hrel =>
   by_cases h0:N=0
   ·refine⟨s2.φ L,0,cap,fun _ _=>.bool true,pBs,.inr ⟨h0,A,?_⟩,fun i hi=>absurd hi (by omega),fun i hi=>absurd hi (by omega),fun i hi=>absurd hi (by omega)⟩;rw[hcl];congr 2;omega
   ·obtain⟨rfl,hP⟩:=hA (by omega)
    have hat:∀i,i<N→∃cs,xs[i]?=some (.agg cs)∧xs.getD i .undef = .agg cs∧cs.length=z∧∀c∈cs,c.one=true∧Pure c:=fun i hi=>by
     have hil:i<xs.length:=by omega
     obtain⟨cs,q1,q2,q3⟩:=hx xs[i] (oI hil);refine⟨cs,by rw[oG hil,q1],?_,q2,q3⟩;rw[pj,oG hil,qG,q1]
    have hrc:∀i,i<N→∀j,j<z→∃cs c,xs[i]?=some (.agg cs)∧cs[j]?=some c∧c.one=true∧Pure c∧Rel s2 c (u i j):=fun i hi j hj=>by
     obtain⟨cs,q1,_,q2,q3⟩:=hat i hi
     have hjl:j<cs.length:=by omega
     have hc:cs[j]?=some cs[j]:=oG hjl;exact⟨cs,cs[j],q1,hc,(q3 _ (oI hjl)).1,(q3 _ (oI hjl)).2,hrel i _ j _ q1 hc⟩
    refine⟨b,off,cap,u,by rw[hs3];exact cU hcut hP,.inl ?_,fun i hi j hj=>?_,fun i hi j hj=>?_,fun i hi s' hst=>?_⟩
    ·rw[hcl,if_neg h0,hN]
    ·obtain⟨cs,c,q1,q2,_⟩:=hrc i hi j hj;rw[hw3];exact hcell i _ j c q1 q2
    ·obtain⟨cs,c,q1,q2,q3,_,q4⟩:=hrc i hi j hj;exact q4.oneCell q3
    ·obtain⟨cs,q1,q2,q3,q4⟩:=hat i hi;rw[q2];refine rel_aggL (by simp[q3]) (fun c hc=>(q4 c hc).1) (fun j c v hc hv=>?_)
     have hj:j<z:=by have:=aB hc;omega
     have hv':u i j=v:=by
      rw[oc,qZ hj]at hv;simpa using hv
     subst hv';have hr:=hrel i _ j c q1 hc
     have hr3:Rel s3 c (u i j):=by
      rw[hs3];exact cL hcut hr (pure_rb1 (q4 c (oH hc)).2 (q4 c (oH hc)).1)
     exact hr3.step hst
 have hkp:∀{sa sb:St},Step s3 sa→Step sa sb→KpS (fun x=>x=s2.φ L∨x=b) sa.w sb.w:=fun {sa sb} h1 h2 x hx=>by
  rcases hx with rfl | rfl
  ·exact(h2.prot (h1.prot pBs).1).2
  ·exact(h2.prot (h1.prot hpb).1).2
 refine wpIn_block ?_
 refine jM (F:=Fence.wide) (n:=20) (w0:=s2.w) rfl (by omega) hgv trivial eg (N:=N) (Kp:=KpS fun x=>x=s2.φ L∨x=b) (encs:=fun k=>#[.int .i64 ((N-1-k:Nat):Int),.agg ((oM z).map (us (N-1-k))).toArray])
  ?_ (fun {A B C} h1 h2 x hx=>(h2 x hx).trans (h1 x hx)) (fun Wd l o o' hl ho _ _ x hx=>?_) (Below.refl _ _) (fun k=>rfl)
  (fun k Wd=>∃s',s'.w=Wd∧Good s'∧Step s3 s'∧s'.H=Hs (min k N)) (fun k A B row hI hgr hr=>?_) ⟨s3,hw3,g3,Step.refl _,by rw[hH3,Nat.zero_min]⟩
  (fun k a Wd=>k<N∧∃s',s'.w=Wd∧Good s'∧Step s3 s'∧s'.H=HB k∧FRel s' (frB k) a.tmps∧a.defers=[]) (fun a k A B row hI hgr hr=>?_) (fun l k Wd hI hk=>?_) (fun l k a Wd hI hk=>?_) (fun D Wd hD hI hdef=>?_)
 ·have h:=hit (s2.φ L) b off cap us s2.w hBs.1 (by rw[←hw3];exact hpb.1) (by rw[←hw3];exact hcase) (fun i hi j hj=>by rw[←hw3];exact hcell i hi j hj) hone;exact h
 ·have hx2:x<s2.w.heap.size:=by
   rcases hx with rfl | rfl
   ·exact hBs.1
   ·rw[←hw3];exact hpb.1
  exact World.putObj_heap_other (by omega)
 ·obtain⟨s',rfl,g',st',hH'⟩:=hI;obtain⟨q1,q2,q3⟩:=kL g3 g' st' (by rw[hH'];exact hnm _ (Nat.min_le_right _ _)) hgr (fun r hr'=>by rw[hw3];exact hr r hr');exact⟨s'.at B,rfl,q1,q2,hH'⟩
 ·obtain⟨hk,s',rfl,g',st',hH',f',d'⟩:=hI;obtain⟨q1,q2,q3⟩:=kL g3 g' st' (by rw[hH'];exact hnB _ hk) hgr (fun r hr'=>by rw[hw3];exact hr r hr');exact⟨hk,s'.at B,rfl,q1,q2,hH',⟨f'.len,fun i v u hv hu=>q3 v u (f'.rel i v u hv hu)⟩,d'⟩
 ·obtain⟨s',rfl,g',st',hH'⟩:=hI;rw[qE (by omega)]at hH'
  have hfr2:FRel s' ((frM.set p0 (.int .i64 ((N-1-k:Nat):Int))).set p1 (xs.getD (N-1-k) .undef)) ((a2.tmps.setIfInBounds p0 (.int .i64 ((N-1-k:Nat):Int))).setIfInBounds p1 (.agg ((oM z).map (us (N-1-k))).toArray)):=
   frel_set (frel_set (f3.step st') (.int _ _)) (hrelE (N-1-k) (by omega) s' st')
  refine wpIn_mono (hasg k hk l _ s' _ ⟨hH',hz3.step st'⟩ g' (by simpa[Array.zip,Array.zipWith,Array.zipWithMAux] using hfr2) rfl) fun e a1 W1 hl=>?_
  obtain⟨fr,s4,rfl,g4,st4,f4,d4,rfl,rfl,hH4⟩:=hl;exact⟨ia g' (by rw[hH'];exact hnm k (by omega)) st4,hkp st' st4,hk,s4,rfl,g4,st'.trans st4,hH4,f4,d4⟩
 ·obtain⟨_,s',rfl,g',st',hH',f',d'⟩:=hI
  refine wpIn_mono (hbody k hk l _ s' a ⟨hH',hz3.step st'⟩ g' f' d') fun e a1 W1 hl=>?_
  obtain⟨fr,s4,rfl,g4,st4,f4,d4,rfl,G,hH4⟩:=hl;refine⟨ia g' (by rw[hH'];exact hnB k hk) st4,hkp st' st4,s4.cut (Hs (k+1)),rfl,fS g4 hH4 (hrb (k+1) (by omega)),ej g4 hH4 (Step.refl _) s3 (st'.trans st4) (by rw[hH3,hlen (k+1) (by omega),←hL];exact oJ _),?_⟩;rw[qE (by omega)];rfl
 ·obtain⟨s',rfl,g',st',hH'⟩:=hI;rw[Nat.min_self]at hH'
  obtain⟨q1,q2,q3⟩:=kL g3 g' st' (by rw[hH'];exact hnm N (oJ _)) (grownBy_putObj' s'.w D (.deferred none)) (fun r hr'=>by
   cases hr'
   exact⟨by rw[hw3];exact hD,_,hdef,rfl⟩)
  show LeavesInM Fence.wide 20 P fn a2.tmps _ ({ target:=.collected D,args:=#[] }::a2.defers) .returning s'.w;rw[d2];refine⟨by simp,.inl ⟨D,_,rfl,run_takeDeferred hdef,?_⟩⟩;refine⟨.tuple #[],by simp[results,hres],.tuple #[],s'.at _,.tup [],rfl,rfl,q1,hstep _ q2,.tup [] #[] rfl (by simp),rfl,hH'⟩
end
end
end
end Go.AM
