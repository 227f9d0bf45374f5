/- JG12: own texts of this seat, joined and shortened by pack4.py: Oz, Fw. -/
import Derived.Test.YtdhgchekdkjcpaaGreatDoorJG9
import Derived.Test.YtdhgchekdkjcpaaGreatDoorJG11
set_option linter.unusedVariables false
set_option linter.unusedSimpArgs false
set_option maxRecDepth 100000
set_option maxHeartbeats 64000000
open Int renaming eq_ofNat_of_zero_le→lZ
open List renaming replicate→kQ,take_of_length_le→kV,getElem_mem→kW,length_cons→kZ,mem_cons_self→lB,mem_cons_of_mem→lE
open Nat renaming mul_le_mul_right→ka,add_mul→kh,le_trans→lM
namespace Go.Proofs.YtdhgchekdkjcpaaGreatDoor
section
open Go Go.AM
theorem agg_rel{w:World}{vs:List V}{us:Array Value}(h:CR w vs us.toList):Rel (AM.base (fun _=>False) w) (.agg vs) (.agg us):=
 .agg vs us (by simpa using h.len.symm) h.one (fun i c u hc hu=>h.rel i c u hc (by simpa using hu))
theorem bW{α:Type}{enc:α→V}{p:α→Prop} : ∀{xs:List V},(∀x∈xs,∃a,x=enc a∧p a)→∃ys:List α,xs=ys.map enc∧∀y∈ys,p y
 | [],_=>⟨[],rfl,by simp⟩
 | x::xs,h=>by
  obtain⟨a,rfl,ha⟩:=h x (by simp);obtain⟨ys,rfl,hy⟩:=bW (xs:=xs) (fun y hy=>h y (by simp[hy]));exact⟨a::ys,rfl,fun y hm=>(List.mem_cons.1 hm).elim (fun e=>e▸ha) (hy y)⟩
theorem jD{n Bd:Nat}{ws:List V}(h:ShB T Bd (n+1) 39 ws):∃m:Nat,ws=[.int .u32 (m:Int)]∧m<4294967296:=by
 simp[ShB]at h;obtain⟨m,rfl,hm⟩:=h;simp[Lit.wf,IntKind.min,IntKind.max,IntKind.signed,IntKind.bits]at hm;obtain⟨k,rfl⟩:=lZ (show 0≤m by omega);exact⟨k,rfl,by omega⟩
theorem db{n Bd:Nat}{ws:List V}(h:ShB T Bd (n+1) 2 ws):∃m:Int,ws=[.int .i64 m]∧inI m:=by
 simp[ShB]at h;obtain⟨m,rfl,hm⟩:=h;simp[Lit.wf,IntKind.min,IntKind.max,IntKind.signed,IntKind.bits]at hm;exact⟨m,rfl,by unfold inI;omega⟩
theorem eQ{n Bd:Nat}{ws:List V}(h:ShB T Bd (n+1) 3 ws):∃m:Int,ws=[.int .i64 m]∧inI m:=by
 simp[ShB]at h;obtain⟨m,rfl,hm⟩:=h;simp[Lit.wf,IntKind.min,IntKind.max,IntKind.signed,IntKind.bits]at hm;exact⟨m,rfl,by unfold inI;omega⟩
theorem shq_str{n Bd:Nat}{ws:List V}(h:ShB T Bd (n+1) 9 ws):∃s:ByteArray,ws=[.str s]∧s.size≤maxLen:=by
 simp[ShB]at h;exact h
theorem cQ{n Bd t:Nat}{i:TI}{fs:Array Field}{sz:Nat}{ws:List V}(h:ShB T Bd (n+1) t ws)(hT:T t=some i)(hd:i.desc = .struct fs)(hs:i.size=sz):ws.length=sz∧∀(k:Nat) f j,fs[k]?=some f→T f.type=some j→ShB T Bd n f.type ((ws.drop f.offset).take j.size):=by
 rw[ShB]at h;simp only[hT,hd]at h;refine⟨by rw[←hs];exact h.1,fun k f j hk hj=>?_⟩;obtain⟨j',h1,h2⟩:=h.2 f (by rw[Array.mem_toList_iff];exact Array.mem_of_getElem? hk);rw[hj]at h1;cases h1;exact h2
theorem cP{n Bd t e:Nat}{i j:TI}{ws:List V}(h:ShB T Bd (n+1) t ws)(hT:T t=some i)(hd:i.desc = .slice e)(hj:T e=some j):∃xs,ws=[.lst j.size false xs]∧xs.length≤Bd∧∀x∈xs,∃ws,ShB T Bd n e ws∧ws.length=j.size∧x=(if bL j.desc then .agg ws else ws.headD .undef):=by
 rw[ShB]at h;simp only[hT,hd,hj]at h;obtain⟨xs,h1,_,h2,h3⟩:=h;exact⟨xs,h1,h2,h3⟩
theorem shq_val{n Bd:Nat}{ws:List V}(h:ShB T Bd (n+2) 119 ws):∃v:Vl,ws=[.int .i64 v.k,.int .i64 v.n,.str v.s]:=by
 obtain⟨hlen,hf⟩:=cQ h T_119 rfl rfl
 obtain⟨a,b,c,rfl⟩:∃a b c,ws=[a,b,c]:=by
  match ws,hlen with
  | [a,b,c],_=>exact⟨a,b,c,rfl⟩
 obtain⟨m,e1,_⟩:=eQ (hf 0 _ _ rfl T_3);obtain⟨k,e2,_⟩:=db (hf 1 _ _ rfl T_2);obtain⟨s,e3,h3⟩:=shq_str (hf 2 _ _ rfl T_9);simp at e1 e2 e3;subst e1;subst e2;subst e3;exact⟨⟨m,k,s⟩,rfl⟩
theorem shq_vals{n Bd:Nat}{ws:List V}(h:ShB T Bd (n+3) 103 ws):∃vs:List Vl,ws=[LV false vs]:=by
 obtain⟨xs,rfl,hl,hx⟩:=cP h T_103 rfl T_119
 obtain⟨l,rfl,hs⟩:∃l:List Vl,xs=l.map encV∧∀v∈l,True:=bW fun x hxm=>by
  obtain⟨ws,hs,_,rfl⟩:=hx x hxm;obtain⟨v,rfl⟩:=shq_val hs;exact⟨v,by simp[bL,encV],trivial⟩
 exact⟨l,rfl⟩
theorem shq_trows{n Bd:Nat}{ws:List V}(h:ShB T Bd (n+5) 29 ws):∃rs:List Rw,ws=[LR false rs]:=by
 obtain⟨xs,rfl,hl,hx⟩:=cP h T_29 rfl T_105
 obtain⟨l,rfl,hs⟩:∃l:List Rw,xs=l.map kB∧∀r∈l,True:=bW fun x hxm=>by
  obtain⟨ws,hs,_,rfl⟩:=hx x hxm;obtain⟨hlen,hf⟩:=cQ hs T_105 rfl rfl
  obtain⟨a,b,rfl⟩:∃a b,ws=[a,b]:=by
   match ws,hlen with
   | [a,b],_=>exact⟨a,b,rfl⟩
  obtain⟨m,e1,_⟩:=db (hf 0 _ _ rfl T_2);obtain⟨vs,e2⟩:=shq_vals (hf 1 _ _ rfl T_103);simp at e1 e2;subst e1;subst e2;exact⟨⟨m,vs⟩,by simp[bL,kB],trivial⟩
 exact⟨l,rfl⟩
theorem shq_strs{n Bd:Nat}{ws:List V}(h:ShB T Bd (n+2) 28 ws):∃ss:List ByteArray,ws=[LS false ss]:=by
 obtain⟨xs,rfl,hl,hx⟩:=cP h T_28 rfl T_9
 obtain⟨l,rfl,hs⟩:∃l:List ByteArray,xs=l.map V.str∧∀c∈l,True:=bW fun x hxm=>by
  obtain⟨ws,hs,_,rfl⟩:=hx x hxm;obtain⟨s,e1,h1⟩:=shq_str hs;subst e1;exact⟨s,by simp[bL],trivial⟩
 exact⟨l,rfl⟩
theorem shq_i64s{n Bd:Nat}{ws:List V}(h:ShB T Bd (n+2) 23 ws):∃xs:List Int,ws=[L1 false xs]∧xs.length≤Bd∧∀x∈xs,inI x:=by
 obtain⟨xs,rfl,hl,hx⟩:=cP h T_23 rfl T_2
 obtain⟨l,rfl,hr⟩:∃l:List Int,xs=l.map aD∧∀c∈l,inI c:=bW fun x hxm=>by
  obtain⟨ws,hs,_,rfl⟩:=hx x hxm;obtain⟨s,e1,h1⟩:=db hs;subst e1;exact⟨s,by simp[bL,aD],h1⟩
 exact⟨l,rfl,by simpa using hl,hr⟩
theorem shq_ints{n Bd:Nat}{ws:List V}(h:ShB T Bd (n+2) 62 ws):∃xs:List Int,ws=[L1 false xs]∧xs.length≤Bd∧∀x∈xs,inI x:=by
 obtain⟨xs,rfl,hl,hx⟩:=cP h T_62 rfl T_3
 obtain⟨l,rfl,hr⟩:∃l:List Int,xs=l.map aD∧∀c∈l,inI c:=bW fun x hxm=>by
  obtain⟨ws,hs,_,rfl⟩:=hx x hxm;obtain⟨s,e1,h1⟩:=eQ hs;subst e1;exact⟨s,by simp[bL,aD],h1⟩
 exact⟨l,rfl,by simpa using hl,hr⟩
theorem shq_sets{n Bd:Nat}{ws:List V}(h:ShB T Bd (n+2) 35 ws):∃xs:List Nat,ws=[.lst 1 false (xs.map ax)]∧xs.length≤Bd∧∀x∈xs,x<4294967296:=by
 obtain⟨xs,rfl,hl,hx⟩:=cP h T_35 rfl T_39
 obtain⟨l,rfl,hr⟩:∃l:List Nat,xs=l.map ax∧∀c∈l,c<4294967296:=bW fun x hxm=>by
  obtain⟨ws,hs,_,rfl⟩:=hx x hxm;obtain⟨s,e1,h1⟩:=jD hs;subst e1;exact⟨s,by simp[bL,ax],h1⟩
 exact⟨l,rfl,by simpa using hl,hr⟩
theorem shq_fd{n Bd:Nat}{ws:List V}(h:ShB T Bd (n+2) 41 ws):∃d:Fd,ws=[.int .u32 (d.l:Int),.int .u32 (d.r:Int)]∧d.l<4294967296∧d.r<4294967296:=by
 obtain⟨hlen,hf⟩:=cQ h T_41 rfl rfl
 obtain⟨a,b,rfl⟩:∃a b,ws=[a,b]:=by
  match ws,hlen with
  | [a,b],_=>exact⟨a,b,rfl⟩
 obtain⟨l,e1,h1⟩:=jD (hf 0 _ _ rfl T_39);obtain⟨r,e2,h2⟩:=jD (hf 1 _ _ rfl T_39);simp at e1 e2;subst e1;subst e2;exact⟨⟨l,r⟩,rfl,h1,h2⟩
theorem shq_nodes{n Bd:Nat}{ws:List V}(h:ShB T Bd (n+6) 24 ws):∃l:List Cnd,ws=[aZ l]∧l.length≤Bd∧∀x∈l,(inI x.v∧∀s∈x.l,inI s.e∧inI s.a)∧x.l.length≤Bd:=by
 obtain⟨xs,rfl,hl,hx⟩:=cP h T_24 rfl T_108
 obtain⟨l,rfl,hr⟩:∃l:List Cnd,xs=l.map aE∧∀x∈l,(inI x.v∧∀s∈x.l,inI s.e∧inI s.a)∧x.l.length≤Bd:=bW fun x hxm=>by
  obtain⟨ws,hs,_,rfl⟩:=hx x hxm;obtain⟨hlen,hf⟩:=cQ hs T_108 rfl rfl
  obtain⟨a,b,rfl⟩:∃a b,ws=[a,b]:=by
   match ws,hlen with
   | [a,b],_=>exact⟨a,b,rfl⟩
  obtain⟨v,e1,h1⟩:=eQ (hf 0 _ _ rfl T_3);obtain⟨ys,e2,hyl,hy⟩:=cP (show ShB T Bd (n+3+1) 106 [b] from hf 1 _ _ rfl T_106) T_106 rfl T_139
  obtain⟨s,rfl,hsr⟩:∃s:List Csh,ys=s.map aN∧∀u∈s,inI u.e∧inI u.a:=bW fun x hxm=>by
   obtain⟨ws,hs,_,rfl⟩:=hy x hxm;obtain⟨hlen,hf⟩:=cQ hs T_139 rfl rfl
   obtain⟨c,d,rfl⟩:∃a b,ws=[a,b]:=by
    match ws,hlen with
    | [a,b],_=>exact⟨a,b,rfl⟩
   obtain⟨p,e3,h3⟩:=eQ (hf 0 _ _ rfl T_3);obtain⟨q,e4,h4⟩:=db (hf 1 _ _ rfl T_2);simp at e3 e4;subst e3;subst e4;exact⟨⟨p,q⟩,by simp[bL,aN],h3,h4⟩
  simp at e1 e2;subst e1;subst e2;exact⟨⟨v,s⟩,by simp[bL,aE,ag],⟨h1,hsr⟩,by simpa using hyl⟩
 exact⟨l,rfl,by simpa using hl,hr⟩
theorem shq_cells{n Bd:Nat}{ws:List V}(h:ShB T Bd (n+3) 27 ws):∃l:List Cel,ws=[aJ l]∧l.length≤Bd∧∀x∈l,inI x.id∧inI x.a:=by
 obtain⟨xs,rfl,hl,hx⟩:=cP h T_27 rfl T_133
 obtain⟨l,rfl,hr⟩:∃l:List Cel,xs=l.map aK∧∀x∈l,inI x.id∧inI x.a:=bW fun x hxm=>by
  obtain⟨ws,hs,_,rfl⟩:=hx x hxm;obtain⟨hlen,hf⟩:=cQ hs T_133 rfl rfl
  obtain⟨c,d,rfl⟩:∃a b,ws=[a,b]:=by
   match ws,hlen with
   | [a,b],_=>exact⟨a,b,rfl⟩
  obtain⟨p,e3,h3⟩:=db (hf 0 _ _ rfl T_2);obtain⟨q,e4,h4⟩:=eQ (hf 1 _ _ rfl T_3);simp at e3 e4;subst e3;subst e4;exact⟨⟨p,q⟩,by simp[bL,aK],h3,h4⟩
 exact⟨l,rfl,by simpa using hl,hr⟩
theorem shq_cores{n Bd:Nat}{ws:List V}(h:ShB T Bd (n+4) 32 ws):∃l:List (List Cel),ws=[.lst 1 false (l.map aJ)]∧l.length≤Bd∧∀x∈l,x.length≤Bd∧∀y∈x,inI y.id∧inI y.a:=by
 obtain⟨xs,rfl,hl,hx⟩:=cP h T_32 rfl T_27
 obtain⟨l,rfl,hr⟩:∃l:List (List Cel),xs=l.map aJ∧∀x∈l,x.length≤Bd∧∀y∈x,inI y.id∧inI y.a:=bW fun x hxm=>by
  obtain⟨ws,hs,_,rfl⟩:=hx x hxm;obtain⟨s,e1,h1⟩:=shq_cells hs;subst e1;exact⟨s,by simp[bL],h1⟩
 exact⟨l,rfl,by simpa using hl,hr⟩
theorem shq_pairs{n Bd:Nat}{ws:List V}(h:ShB T Bd (n+3) 36 ws):∃l:List Cpr,ws=[.lst 3 false (l.map aQ)]∧l.length≤Bd∧∀p∈l,p.s<4294967296∧inI p.a∧inI p.b:=by
 obtain⟨xs,rfl,hl,hx⟩:=cP h T_36 rfl T_135
 obtain⟨l,rfl,hr⟩:∃l:List Cpr,xs=l.map aQ∧∀p∈l,p.s<4294967296∧inI p.a∧inI p.b:=bW fun x hxm=>by
  obtain⟨ws,hs,_,rfl⟩:=hx x hxm;obtain⟨hlen,hf⟩:=cQ hs T_135 rfl rfl
  obtain⟨b,c,d,rfl⟩:∃a b c,ws=[a,b,c]:=by
   match ws,hlen with
   | [a,b,c],_=>exact⟨a,b,c,rfl⟩
  obtain⟨o,e2,h2⟩:=jD (hf 0 _ _ rfl T_39);obtain⟨p,e3,h3⟩:=db (hf 1 _ _ rfl T_2);obtain⟨q,e4,h4⟩:=db (hf 2 _ _ rfl T_2);simp at e2 e3 e4;subst e2;subst e3;subst e4;exact⟨⟨o,p,q⟩,by simp[bL,aQ],h2,h3,h4⟩
 exact⟨l,rfl,by simpa using hl,hr⟩
theorem shq_steps{n Bd:Nat}{ws:List V}(h:ShB T Bd (n+4) 37 ws):∃l:List Cst,ws=[.lst 4 false (l.map aL)]∧l.length≤Bd∧∀s∈l,(inI s.r∧(∀i∈s.f,inI i)∧s.d.l<4294967296∧s.d.r<4294967296)∧s.f.length≤Bd:=by
 obtain⟨xs,rfl,hl,hx⟩:=cP h T_37 rfl T_110
 obtain⟨l,rfl,hr⟩:∃l:List Cst,xs=l.map aL∧∀s∈l,(inI s.r∧(∀i∈s.f,inI i)∧s.d.l<4294967296∧s.d.r<4294967296)∧s.f.length≤Bd:=bW fun x hxm=>by
  obtain⟨ws,hs,_,rfl⟩:=hx x hxm;obtain⟨hlen,hf⟩:=cQ hs T_110 rfl rfl
  obtain⟨a,b,c,d,rfl⟩:∃a b c d,ws=[a,b,c,d]:=by
   match ws,hlen with
   | [a,b,c,d],_=>exact⟨a,b,c,d,rfl⟩
  obtain⟨r,e1,h1⟩:=eQ (hf 0 _ _ rfl T_3);obtain⟨f,e2,h2,h22⟩:=shq_ints (show ShB T Bd (n+2) 62 [b] from hf 1 _ _ rfl T_62);obtain⟨g,e3,h3⟩:=shq_fd (show ShB T Bd (n+2) 41 [c,d] from hf 2 _ _ rfl T_41);simp at e1 e2 e3;obtain⟨rfl,rfl⟩:=e3;subst e1;subst e2;exact⟨⟨r,f,g⟩,by simp[bL,aL,L1],⟨h1,h22,h3⟩,h2⟩
 exact⟨l,rfl,by simpa using hl,hr⟩
structure CertB (Bd:Nat) (c:Cert):Prop where
 k:inI c.k
 r:okR c
 l1:c.del.length≤Bd
 l2:c.prf.length≤Bd∧∀x∈c.prf,x.l.length≤Bd
 l3:c.cells.length≤Bd
 l4:c.cores.length≤Bd∧∀x∈c.cores,x.length≤Bd
 l5:c.upr.length≤Bd∧∀x∈c.upr,x.l.length≤Bd
 l6:c.sets.length≤Bd
 l7:c.prs.length≤Bd
 l8:c.steps.length≤Bd∧∀x∈c.steps,x.f.length≤Bd
theorem shq_cert{n Bd:Nat}{ws:List V}(h:ShB T Bd (n+9) 43 ws):∃c:Cert,.agg ws=aU c∧CertB Bd c:=by
 obtain⟨hlen,hf⟩:=cQ h T_43 rfl rfl
 obtain⟨x0,x1,x2,x3,x4,x5,x6,x7,x8,x9,x10,x11,x12,x13,x14,rfl⟩:∃x0 x1 x2 x3 x4 x5 x6 x7 x8 x9 x10 x11 x12 x13 x14,ws=[x0,x1,x2,x3,x4,x5,x6,x7,x8,x9,x10,x11,x12,x13,x14]:=by
  match ws,hlen with
  | [x0,x1,x2,x3,x4,x5,x6,x7,x8,x9,x10,x11,x12,x13,x14],_=>exact⟨x0,x1,x2,x3,x4,x5,x6,x7,x8,x9,x10,x11,x12,x13,x14,rfl⟩
 obtain⟨k,e0,h0⟩:=eQ (hf 0 _ _ rfl T_3);obtain⟨_,f1⟩:=cQ (show ShB T Bd (n+7+1) 26 [x1,x2,x3] from hf 1 _ _ rfl T_26) T_26 rfl rfl;obtain⟨del,e1,h1,r1⟩:=shq_i64s (show ShB T Bd (n+5+2) 23 [x1] from f1 0 _ _ rfl T_23);obtain⟨wt,e2,r2⟩:=db (f1 1 _ _ rfl T_2);obtain⟨prf,e3,h3,r3⟩:=shq_nodes (show ShB T Bd (n+1+6) 24 [x3] from f1 2 _ _ rfl T_24);obtain⟨_,f2⟩:=cQ (show ShB T Bd (n+7+1) 34 [x4,x5,x6,x7,x8,x9] from hf 2 _ _ rfl T_34) T_34 rfl rfl;obtain⟨cells,e4,h4,r4⟩:=shq_cells (show ShB T Bd (n+4+3) 27 [x4] from f2 0 _ _ rfl T_27);obtain⟨_,f5⟩:=cQ (show ShB T Bd (n+6+1) 31 [x5,x6,x7] from f2 1 _ _ rfl T_31) T_31 rfl rfl;obtain⟨nm,e5,_⟩:=shq_str (f5 0 _ _ rfl T_9);obtain⟨ats,e6⟩:=shq_strs (show ShB T Bd (n+4+2) 28 [x6] from f5 1 _ _ rfl T_28);obtain⟨rows,e7⟩:=shq_trows (show ShB T Bd (n+1+5) 29 [x7] from f5 2 _ _ rfl T_29);obtain⟨cores,e8,h8,r8⟩:=shq_cores (show ShB T Bd (n+3+4) 32 [x8] from f2 2 _ _ rfl T_32);obtain⟨upr,e9,h9,r9⟩:=shq_nodes (show ShB T Bd (n+1+6) 24 [x9] from f2 3 _ _ rfl T_24);obtain⟨sets,e10,h10,r10⟩:=shq_sets (show ShB T Bd (n+6+2) 35 [x10] from hf 3 _ _ rfl T_35);obtain⟨prs,e11,h11,r11⟩:=shq_pairs (show ShB T Bd (n+5+3) 36 [x11] from hf 4 _ _ rfl T_36);obtain⟨steps,e12,h12,r12⟩:=shq_steps (show ShB T Bd (n+4+4) 37 [x12] from hf 5 _ _ rfl T_37);obtain⟨g,e13,r13⟩:=shq_fd (show ShB T Bd (n+6+2) 41 [x13,x14] from hf 6 _ _ rfl T_41);simp at e0 e1 e2 e3 e4 e5 e6 e7 e8 e9 e10 e11 e12 e13;obtain⟨rfl,rfl⟩:=e13;subst e0;subst e1;subst e2;subst e3;subst e4;subst e5;subst e6;subst e7;subst e8;subst e9;subst e10;subst e11;subst e12;refine⟨⟨k,del,wt,prf,cells,⟨nm,ats,rows⟩,cores,upr,sets,prs,steps,g⟩,rfl,h0,⟨r1,r2,fun x hx=>(r3 x hx).1,r4,fun l hl=>(r8 l hl).2,fun x hx=>(r9 x hx).1,r10,r11,fun s hs=>(r12 s hs).1,r13⟩,h1,⟨h3,fun x hx=>(r3 x hx).2⟩,h4,⟨h8,fun x hx=>(r8 x hx).1⟩,⟨h9,fun x hx=>(r9 x hx).2⟩,h10,h11,⟨h12,fun x hx=>(r12 x hx).2⟩⟩
end
end Go.Proofs.YtdhgchekdkjcpaaGreatDoor
namespace Go.Proofs.YtdhgchekdkjcpaaGreatDoor
section
open Go Go.AM Go.Lib
theorem sumL_bd{α:Type}(f:α→Nat)(K:Nat):∀(l:List α),(∀x∈l,f x≤K)→bN f l≤l.length*K
 | [],_=>by simp[bN]
 | x::l,h=>by
  have h1:=h x lB;have h2:=sumL_bd f K l (fun y hy=>h y (lE _ hy));rw[iG,kZ,kh];omega
theorem gY{α:Type}(f:α→Nat)(l:List α)(h:∀x∈l,f x≤1048577)(hl:l.length≤1048576):bN f l≤1099512676352 :=
 lM (sumL_bd f 1048577 l h) (ka _ hl)
def ndS(x:Cnd):Nat:=1+x.l.length
def coS(l:List Cel):Nat:=1+l.length
def stS(s:Cst):Nat:=1+s.f.length
theorem few_r(c:Cert)(h:CertB 1048576 c):ab Tryz.prog 11 [aU c] fun r=>r = .bool (decide (fewN c≤600)):=by
 obtain⟨_,_,l1,⟨l2,l22⟩,l3,⟨l4,l42⟩,⟨l5,l52⟩,l6,l7,⟨l8,l82⟩⟩:=h;obtain⟨k,del,w,prf,cells,t,cores,upr,sets,prs,steps,g⟩:=c;simp only at l1 l2 l22 l3 l4 l42 l5 l52 l6 l7 l8 l82;have z1:=gY ndS prf (fun x hx=>by have:=l22 x hx;unfold ndS;omega) l2;have z2:=gY ndS upr (fun x hx=>by have:=l52 x hx;unfold ndS;omega) l5;have z3:=gY coS cores (fun x hx=>by have:=l42 x hx;unfold coS;omega) l4;have z4:=gY stS steps (fun x hx=>by have:=l82 x hx;unfold stS;omega) l8;obtain⟨S0,hS0⟩:∃S0,S0=del.length+cells.length+sets.length+prs.length:=⟨_,rfl⟩
 have e0:fewN ⟨k,del,w,prf,cells,t,cores,upr,sets,prs,steps,g⟩=S0+bN ndS prf+bN ndS upr+bN coS cores+bN stS steps:=by rw[hS0];rfl
 rw[e0];obtain⟨b0,hb0⟩:∃b0,b0=decide (S0+bN ndS prf+bN ndS upr+bN coS cores+bN stS steps≤600):=⟨_,rfl⟩;rw[←hb0];refine sPx Tryz.func11 rfl rfl ?_;simp -dsimp[Tryz.f11,kQ,aU,aI,aZ,aJ,aa (n:=(del.length:Int)+(cells.length:Int)) (by omega) (by omega),aa (n:=(del.length:Int)+(cells.length:Int)+(sets.length:Int)) (by omega) (by omega),aa (n:=(del.length:Int)+(cells.length:Int)+(sets.length:Int)+(prs.length:Int)) (by omega) (by omega)];refine aS (W_loopM 44 0xffffe000018 (by simp[mB]<;>rfl) (σ:=Nat) (fun i=>i≤prf.length) (fun i=>prf.length-i) (fun i=>[(3,.int .i64 ((S0+bN ndS (prf.take i):Nat):Int)),(4,.int .i64 i)]) (fun _=>[B.cells (aI ⟨k,del,w,prf,cells,t,cores,upr,sets,prs,steps,g⟩)]) 0 (by simp) (by simp[bN,hS0]) (by simp[aI,aZ,aJ]) (by simp) ?_);rintro i hi N Q hN hQ;have hz:=fR ndS prf i;by_cases hb:i<prf.length
 ·obtain⟨S,hS⟩:∃S,S=S0+bN ndS (prf.take i):=⟨_,rfl⟩;rw[←hS]
  have hsn:bN ndS (prf.take (i+1))=bN ndS (prf.take i)+(1+prf[i].l.length):=by rw[ap prf hb,fS];rfl
  have hxl:=l22 _ (kW hb);obtain⟨x,hx⟩:∃x,x=prf[i]:=⟨_,rfl⟩;have hx':=hx.symm;rw[hx']at hsn hxl;refine wx ?_;simp -dsimp[aI,aZ,aJ,hb,hx',aE,ag,aO i (by omega),aa (n:=(S:Int)+1) (by omega) (by omega),aa (n:=(S:Int)+1+(x.l.length:Int)) (by omega) (by omega)];refine hN (i+1) _ _ (by omega) (by omega) ?_ ⟨[],by simp[aI,aZ,aJ,ag]⟩ (by simp[aZ,aJ]) (by simp[aI,aZ,aJ]);rw[hsn];simp;omega
 have e:prf.take i=prf:=kV (by omega);rw[e];obtain⟨S1,hS1⟩:∃S1,S1=S0+bN ndS prf:=⟨_,rfl⟩;rw[←hS1]at hb0 ⊢;refine wx ?_;simp -dsimp[aI,aZ,aJ,hb];refine hQ _ _ _ ?_;simp -dsimp[aI,aZ,aJ];refine aS (W_loopM 63 0x7ffff00000000028 (by simp[mB]<;>rfl) (σ:=Nat) (fun i=>i≤upr.length) (fun i=>upr.length-i) (fun i=>[(3,.int .i64 ((S1+bN ndS (upr.take i):Nat):Int)),(5,.int .i64 i)]) (fun _=>[B.cells (aI ⟨k,del,w,prf,cells,t,cores,upr,sets,prs,steps,g⟩)]) 0 (by simp) (by simp[bN]) (by simp[aI,aZ,aJ]) (by simp) ?_);rintro i hi N Q hN hQ;have hz:=fR ndS upr i;by_cases hb:i<upr.length
 ·obtain⟨S,hS⟩:∃S,S=S1+bN ndS (upr.take i):=⟨_,rfl⟩;rw[←hS]
  have hsn:bN ndS (upr.take (i+1))=bN ndS (upr.take i)+(1+upr[i].l.length):=by rw[ap upr hb,fS];rfl
  have hxl:=l52 _ (kW hb);obtain⟨x,hx⟩:∃x,x=upr[i]:=⟨_,rfl⟩;have hx':=hx.symm;rw[hx']at hsn hxl;refine wx ?_;simp -dsimp[aI,aZ,aJ,hb,hx',aE,ag,aO i (by omega),aa (n:=(S:Int)+1) (by omega) (by omega),aa (n:=(S:Int)+1+(x.l.length:Int)) (by omega) (by omega)];refine hN (i+1) _ _ (by omega) (by omega) ?_ ⟨[],by simp[aI,aZ,aJ,ag]⟩ (by simp[aZ,aJ]) (by simp[aI,aZ,aJ]);rw[hsn];simp;omega
 have e:upr.take i=upr:=kV (by omega);rw[e];obtain⟨S2,hS2⟩:∃S2,S2=S1+bN ndS upr:=⟨_,rfl⟩;rw[←hS2]at hb0 ⊢;refine wx ?_;simp -dsimp[aI,aZ,aJ,hb];refine hQ _ _ _ ?_;simp -dsimp[aI,aZ,aJ];refine aS (W_loopM 81 0x1ffff8000000000000048 (by simp[mB]<;>rfl) (σ:=Nat) (fun i=>i≤cores.length) (fun i=>cores.length-i) (fun i=>[(3,.int .i64 ((S2+bN coS (cores.take i):Nat):Int)),(6,.int .i64 i)]) (fun _=>[B.cells (aI ⟨k,del,w,prf,cells,t,cores,upr,sets,prs,steps,g⟩)]) 0 (by simp) (by simp[bN]) (by simp[aI,aZ,aJ]) (by simp) ?_);rintro i hi N Q hN hQ;have hz:=fR coS cores i;by_cases hb:i<cores.length
 ·obtain⟨S,hS⟩:∃S,S=S2+bN coS (cores.take i):=⟨_,rfl⟩;rw[←hS]
  have hsn:bN coS (cores.take (i+1))=bN coS (cores.take i)+(1+cores[i].length):=by rw[ap cores hb,fS];rfl
  have hxl:=l42 _ (kW hb);obtain⟨x,hx⟩:∃x,x=cores[i]:=⟨_,rfl⟩;have hx':=hx.symm;rw[hx']at hsn hxl;refine wx ?_;simp -dsimp[aI,aZ,aJ,hb,hx',aO i (by omega),aa (n:=(S:Int)+1) (by omega) (by omega),aa (n:=(S:Int)+1+(x.length:Int)) (by omega) (by omega)];refine hN (i+1) _ _ (by omega) (by omega) ?_ ⟨[],by simp[aI,aZ,aJ,ag]⟩ (by simp[aZ,aJ]) (by simp[aI,aZ,aJ]);rw[hsn];simp;omega
 have e:cores.take i=cores:=kV (by omega);rw[e];obtain⟨S3,hS3⟩:∃S3,S3=S2+bN coS cores:=⟨_,rfl⟩;rw[←hS3]at hb0 ⊢;refine wx ?_;simp -dsimp[aI,aZ,aJ,hb];refine hQ _ _ _ ?_;simp -dsimp[aI,aZ,aJ];refine aS (W_loopM 98 0x3fffe00000000000000000088 (by simp[mB]<;>rfl) (σ:=Nat) (fun i=>i≤steps.length) (fun i=>steps.length-i) (fun i=>[(3,.int .i64 ((S3+bN stS (steps.take i):Nat):Int)),(7,.int .i64 i)]) (fun _=>[B.cells (aI ⟨k,del,w,prf,cells,t,cores,upr,sets,prs,steps,g⟩)]) 0 (by simp) (by simp[bN]) (by simp[aI,aZ,aJ]) (by simp) ?_);rintro i hi N Q hN hQ;have hz:=fR stS steps i;by_cases hb:i<steps.length
 ·obtain⟨S,hS⟩:∃S,S=S3+bN stS (steps.take i):=⟨_,rfl⟩;rw[←hS]
  have hsn:bN stS (steps.take (i+1))=bN stS (steps.take i)+(1+steps[i].f.length):=by rw[ap steps hb,fS];rfl
  have hxl:=l82 _ (kW hb);obtain⟨x,hx⟩:∃x,x=steps[i]:=⟨_,rfl⟩;have hx':=hx.symm;rw[hx']at hsn hxl;refine wx ?_;simp -dsimp[aI,aZ,aJ,hb,hx',aL,aO i (by omega),aa (n:=(S:Int)+1) (by omega) (by omega),aa (n:=(S:Int)+1+(x.f.length:Int)) (by omega) (by omega)];refine hN (i+1) _ _ (by omega) (by omega) ?_ ⟨[],by simp[aI,aZ,aJ,ag]⟩ (by simp[aZ,aJ]) (by simp[aI,aZ,aJ]);rw[hsn];simp;omega
 have e:steps.take i=steps:=kV (by omega);rw[e];obtain⟨S4,hS4⟩:∃S4,S4=S3+bN stS steps:=⟨_,rfl⟩;rw[←hS4]at hb0 ⊢;refine wx ?_;simp -dsimp[aI,aZ,aJ,hb];refine hQ _ _ _ ?_;simp -dsimp[];rw[hb0];simp;omega
end
end Go.Proofs.YtdhgchekdkjcpaaGreatDoor
