/- JM15: own texts of this seat, joined and shortened by pack4.py: Opq, Opr, G3, G4, OD, CF. -/
import Derived.Test.YtjogkbekekdkjaaGreatDoorJM12
import Derived.Test.YtjogkbekekdkjaaGreatDoorJM14
set_option linter.unusedVariables false
set_option linter.unusedSimpArgs false
set_option maxRecDepth 100000
set_option maxHeartbeats 64000000
open Bool renaming and_eq_true→pC,true_and→pP,false_and→pS,not_false→sR
open ByteArray renaming empty→pE
open Int renaming eq_ofNat_of_zero_le→qy,toNat_natCast→rD,toNat_of_nonneg→rz
open List renaming replicate→ou,getElem_mem→ow,drop_eq_getElem_cons→pB,drop_of_length_le→pF,drop_zero→pT,nil_append→pU,all_eq_true→pV,cons_append→pn,all_cons→qk,any_cons→ql
open Nat renaming le_trans→ph
namespace Go.Proofs.YtjogkbekekdkjaaGreatDoor
section
open Go Go.AM
theorem cZ{α:Type}{enc:α→V}{p:α→Prop} : ∀{xs:List V},(∀x∈xs,∃a,x=enc a∧p a)→∃ys:List α,xs=ys.map enc∧∀y∈ys,p y
 | [],_=>⟨[],rfl,by simp⟩
 | x::xs,h=>by
  obtain⟨a,rfl,ha⟩:=h x (by simp);obtain⟨ys,rfl,hy⟩:=cZ (xs:=xs) (fun y hy=>h y (by simp[hy]));exact⟨a::ys,rfl,fun y hm=>(List.mem_cons.1 hm).elim (fun e=>e▸ha) (hy y)⟩
theorem shq_u8{n Bd:Nat}{ws:List V}(h:ShB T Bd (n+1) 5 ws):∃m:Int,ws=[.int .u8 m]∧0≤m∧m<256:=by
 simp[ShB]at h;obtain⟨m,rfl,hm⟩:=h;refine⟨m,rfl,?_⟩;simp[Lit.wf,IntKind.min,IntKind.max,IntKind.signed,IntKind.bits]at hm;omega
theorem bu{n Bd t:Nat}{i:TI}{fs:Array Field}{sz:Nat}{ws:List V}(h:ShB T Bd (n+1) t ws)(hT:T t=some i)(hd:i.desc = .struct fs)(hs:i.size=sz):ws.length=sz∧∀(k:Nat) f j,fs[k]?=some f→T f.type=some j→ShB T Bd n f.type ((ws.drop f.offset).take j.size):=by
 rw[ShB]at h;simp only[hT,hd]at h;refine⟨by rw[←hs];exact h.1,fun k f j hk hj=>?_⟩;obtain⟨j',h1,h2⟩:=h.2 f (by rw[Array.mem_toList_iff];exact Array.mem_of_getElem? hk);rw[hj]at h1;cases h1;exact h2
theorem fi{n Bd t e:Nat}{i j:TI}{ws:List V}(h:ShB T Bd (n+1) t ws)(hT:T t=some i)(hd:i.desc = .slice e)(hj:T e=some j):∃xs,ws=[.lst j.size false xs]∧xs.length≤maxLen∧xs.length≤Bd∧∀x∈xs,∃ws,ShB T Bd n e ws∧ws.length=j.size∧x=(if bK j.desc then .agg ws else ws.headD .undef):=by
 rw[ShB]at h;simp only[hT,hd,hj]at h;exact h
theorem shq_lst{n Bd t e:Nat}{i j:TI}{ws:List V}(h:ShB T Bd (n+1) t ws)(hT:T t=some i)(hd:i.desc = .slice e)(hj:T e=some j):∃xs,ws=[.lst j.size false xs]∧xs.length≤maxLen∧∀x∈xs,∃ws,ShB T Bd n e ws∧ws.length=j.size∧x=(if bK j.desc then .agg ws else ws.headD .undef):=by
 obtain⟨xs,h1,h2,_,h3⟩:=fi h hT hd hj;exact⟨xs,h1,h2,h3⟩
theorem eO{n Bd:Nat}{ws:List V}(h:ShB T Bd (n+2) 26 ws):∃ns:List Int,ws=[LU ns]∧ns.length≤maxLen∧∀c∈ns,0≤c∧c<256:=by
 obtain⟨ys,rfl,hl2,hy⟩:=shq_lst h T_26 rfl T_5
 obtain⟨ns,rfl,hn⟩:∃ns:List Int,ys=ns.map bp∧∀c∈ns,0≤c∧c<256:=cZ fun y hym=>by
  obtain⟨ws,hs,_,rfl⟩:=hy y hym;obtain⟨m,rfl,hm⟩:=shq_u8 hs;exact⟨m,by simp[bK,bp],hm⟩
 exact⟨ns,by simp[LU],by simpa using hl2,hn⟩
theorem shq_rows{n Bd:Nat}{ws:List V}(h:ShB T Bd (n+3) 22 ws):∃rs:List (List Int),ws=[.lst 1 false (rs.map LU)]∧rs.length≤maxLen∧∀r∈rs,r.length≤maxLen:=by
 obtain⟨xs,rfl,hl,hx⟩:=shq_lst h T_22 rfl T_26
 obtain⟨rs,rfl,hr⟩:∃rs:List (List Int),xs=rs.map LU∧∀r∈rs,r.length≤maxLen:=cZ fun x hxm=>by
  obtain⟨ws,hs,_,rfl⟩:=hx x hxm;obtain⟨ns,rfl,h1,_⟩:=eO hs;exact⟨ns,by simp[bK],h1⟩
 exact⟨rs,rfl,by simpa using hl,hr⟩
theorem shq_recipe{n Bd:Nat}{ws:List V}(h:ShB T Bd (n+4) 24 ws):∃r:Rcp,ws=[.int .u8 r.a,.int .u8 r.gap,.lst 1 false (r.rows.map LU)]∧(0≤r.a∧r.a<256)∧0≤r.gap∧r.rows.length≤maxLen∧∀x∈r.rows,x.length≤maxLen:=by
 obtain⟨hlen,hf⟩:=bu h T_24 rfl rfl
 obtain⟨a,b,c,rfl⟩:∃a b c,ws=[a,b,c]:=by
  match ws,hlen with
  | [a,b,c],_=>exact⟨a,b,c,rfl⟩
 obtain⟨m,e1,p1⟩:=shq_u8 (hf 0 _ _ rfl T_5);obtain⟨k,e2,q1,q2⟩:=shq_u8 (hf 1 _ _ rfl T_5);obtain⟨rs,e3,l1,l2⟩:=shq_rows (hf 2 _ _ rfl T_22);simp at e1 e2 e3;subst e1;subst e2;subst e3;exact⟨⟨m,k,rs⟩,rfl,p1,q1,l1,l2⟩
theorem shq_dep{n Bd:Nat}{ws:List V}(h:ShB T Bd (n+2) 91 ws):∃d:Fd,ws=[.int .u8 (d.l:Int),.int .u8 (d.r:Int)]∧d.l<256∧d.r<256:=by
 obtain⟨hlen,hf⟩:=bu h T_91 rfl rfl
 obtain⟨a,b,rfl⟩:∃a b,ws=[a,b]:=by
  match ws,hlen with
  | [a,b],_=>exact⟨a,b,rfl⟩
 obtain⟨m,e1,p1,p2⟩:=shq_u8 (hf 0 _ _ rfl T_5);obtain⟨k,e2,q1,q2⟩:=shq_u8 (hf 1 _ _ rfl T_5);simp at e1 e2;subst e1;subst e2;refine⟨⟨m.toNat,k.toNat⟩,?_,by simp only;omega,by simp only;omega⟩;simp[rz p1,rz q1]
theorem shq_side{n Bd:Nat}{ws:List V}(h:ShB T Bd (n+2) 206 ws):∃v c:Int,ws=[.int .u8 v,.int .u8 c]∧(0≤v∧v<256)∧(0≤c∧c<256):=by
 obtain⟨hlen,hf⟩:=bu h T_206 rfl rfl
 obtain⟨a,b,rfl⟩:∃a b,ws=[a,b]:=by
  match ws,hlen with
  | [a,b],_=>exact⟨a,b,rfl⟩
 obtain⟨m,e1,p1⟩:=shq_u8 (hf 0 _ _ rfl T_5);obtain⟨k,e2,q1⟩:=shq_u8 (hf 1 _ _ rfl T_5);simp at e1 e2;subst e1;subst e2;exact⟨m,k,rfl,p1,q1⟩
theorem shq_snt{n Bd:Nat}{ws:List V}(h:ShB T Bd (n+3) 208 ws):∃s:Snt,ws=[.int .u8 s.lv,.int .u8 s.lc,.int .u8 s.op,.int .u8 s.rv,.int .u8 s.rc]∧SntOk s:=by
 obtain⟨hlen,hf⟩:=bu h T_208 rfl rfl
 obtain⟨a,b,c,d,e,rfl⟩:∃a b c d e,ws=[a,b,c,d,e]:=by
  match ws,hlen with
  | [a,b,c,d,e],_=>exact⟨a,b,c,d,e,rfl⟩
 obtain⟨v,x,e1,p1,p2⟩:=shq_side (show ShB T Bd (n+2) 206 [a,b] from hf 0 _ _ rfl T_206);obtain⟨o,e2,q1⟩:=shq_u8 (hf 1 _ _ rfl T_5);obtain⟨w,y,e3,r1,r2⟩:=shq_side (show ShB T Bd (n+2) 206 [d,e] from hf 2 _ _ rfl T_206);simp at e1 e2 e3;obtain⟨rfl,rfl⟩:=e1;obtain⟨rfl,rfl⟩:=e3;subst e2;exact⟨⟨v,x,o,w,y⟩,rfl,⟨p1,p2,q1,r1,r2⟩⟩
theorem shq_snts{n Bd:Nat}{ws:List V}(h:ShB T Bd (n+4) 96 ws):∃l:List Snt,ws=[.lst 5 false (l.map cP)]∧l.length≤Bd∧∀s∈l,SntOk s:=by
 obtain⟨xs,rfl,_,hl,hx⟩:=fi h T_96 rfl T_208
 obtain⟨l,rfl,hs⟩:∃l:List Snt,xs=l.map cP∧∀s∈l,SntOk s:=cZ fun x hxm=>by
  obtain⟨ws,hs,_,rfl⟩:=hx x hxm;obtain⟨s,rfl,h1⟩:=shq_snt hs;exact⟨s,by simp[bK,cP],h1⟩
 exact⟨l,rfl,by simpa using hl,hs⟩
theorem shq_rule{n Bd:Nat}(hB:Bd≤1048576){ws:List V}(h:ShB T Bd (n+6) 100 ws):∃r:Rul,.agg ws=aq r∧RulOk r:=by
 obtain⟨hlen,hf⟩:=bu h T_100 rfl rfl
 obtain⟨a,b,c,d,e,f,g,i,j,k,rfl⟩:∃a b c d e f g i j k,ws=[a,b,c,d,e,f,g,i,j,k]:=by
  match ws,hlen with
  | [a,b,c,d,e,f,g,i,j,k],_=>exact⟨a,b,c,d,e,f,g,i,j,k,rfl⟩
 obtain⟨kk,e0,p0⟩:=shq_u8 (hf 0 _ _ rfl T_5);obtain⟨fd,e1,p1⟩:=shq_dep (show ShB T Bd (n+3+2) 91 [b,c] from hf 1 _ _ rfl T_91);obtain⟨_,hc⟩:=bu (show ShB T Bd (n+4+1) 93 [d,e,f] from hf 2 _ _ rfl T_93) T_93 rfl rfl;obtain⟨cl,e2,p2⟩:=shq_u8 (hc 0 _ _ rfl T_5);obtain⟨cr,e3,p3⟩:=shq_u8 (hc 1 _ _ rfl T_5);obtain⟨cs,e4,p4,p4'⟩:=eO (show ShB T Bd (n+2+2) 26 [f] from hc 2 _ _ rfl T_26);obtain⟨_,ho⟩:=bu (show ShB T Bd (n+4+1) 95 [g,i] from hf 3 _ _ rfl T_95) T_95 rfl rfl;obtain⟨xs,e5,p5,p5'⟩:=eO (show ShB T Bd (n+2+2) 26 [g] from ho 0 _ _ rfl T_26);obtain⟨ys,e6,p6,p6'⟩:=eO (show ShB T Bd (n+2+2) 26 [i] from ho 1 _ _ rfl T_26);obtain⟨_,hd⟩:=bu (show ShB T Bd (n+4+1) 98 [j,k] from hf 4 _ _ rfl T_98) T_98 rfl rfl;obtain⟨nv,e7,p7⟩:=shq_u8 (hd 0 _ _ rfl T_5);obtain⟨sn,e8,p8,p8'⟩:=shq_snts (show ShB T Bd (n+4) 96 [k] from hd 1 _ _ rfl T_96);simp at e0 e1 e2 e3 e4 e5 e6 e7 e8;obtain⟨rfl,rfl⟩:=e1;subst e0 e2 e3 e4 e5 e6 e7 e8;exact⟨⟨kk,fd,cl,cr,cs,xs,ys,nv,sn⟩,rfl,⟨p0,p1,p2,p3,p4,p4',p5,p5',p6,p6',p7,ph p8 hB,p8'⟩⟩
theorem shq_rules{n Bd:Nat}(hB:Bd≤1048576){ws:List V}(h:ShB T Bd (n+7) 25 ws):∃l:List Rul,ws=[.lst 10 false (l.map aq)]∧l.length≤1048576∧∀r∈l,RulOk r:=by
 obtain⟨xs,rfl,_,hl,hx⟩:=fi h T_25 rfl T_100
 obtain⟨l,rfl,hs⟩:∃l:List Rul,xs=l.map aq∧∀r∈l,RulOk r:=cZ fun x hxm=>by
  obtain⟨ws,hs,_,rfl⟩:=hx x hxm;obtain⟨r,h1,h2⟩:=shq_rule hB hs;exact⟨r,by simpa[bK] using h1,h2⟩
 exact⟨l,rfl,by simp at hl;omega,hs⟩
structure CnSz (c:Cn):Prop where
 p:∀x∈c.cfd.p,x.x.s.size≤maxLen
 a:∀x∈c.dn.atoms,x.l.x.s.size≤maxLen∧x.r.x.s.size≤maxLen
 tab:c.table.size≤maxLen
 fd:c.fd.l<4294967296∧c.fd.r<4294967296
theorem termValid(n vars:Int)(t:Tm):aE Tryz.prog 182 [.int .i64 n,.int .i64 vars,dt t] fun r=>r = .bool (tmB n vars t):=by
 have cv:=kx t.x;simp only[ac]at cv;unfold tmB nV;by_cases h0:t.v=0
 ·rw[if_pos h0];by_cases h1:t.a=0
  ·rw[decide_eq_true h1,pP];refine sPx Tryz.func182 rfl rfl ?_;simp -dsimp[Tryz.f182,ou,dt,h0,h1];refine cPx (cv) (by simp) ?_;simp -dsimp[]
  ·rw[decide_eq_false h1,pS];refine sPx Tryz.func182 rfl rfl ?_;simp -dsimp[Tryz.f182,ou,dt,h0,h1]
 ·rw[if_neg h0];by_cases h1:1≤t.v
  ·rw[decide_eq_true h1,pP]
   have h1':0<t.v:=by omega
   by_cases h2:t.v≤vars
   ·rw[decide_eq_true h2,pP];by_cases h3:0≤t.a
    ·rw[decide_eq_true h3,pP];by_cases h4:t.a<n
     ·rw[decide_eq_true h4,pP];refine sPx Tryz.func182 rfl rfl ?_;simp -dsimp[Tryz.f182,ou,dt,h0,h1',h2,h3,h4,eqVl]
     ·rw[decide_eq_false h4,pS];refine sPx Tryz.func182 rfl rfl ?_;simp -dsimp[Tryz.f182,ou,dt,h0,h1',h2,h3,h4]
    ·rw[decide_eq_false h3,pS];refine sPx Tryz.func182 rfl rfl ?_;simp -dsimp[Tryz.f182,ou,dt,h0,h1',h2,h3]
   ·rw[decide_eq_false h2,pS];refine sPx Tryz.func182 rfl rfl ?_;simp -dsimp[Tryz.f182,ou,dt,h0,h1',h2]
  ·rw[decide_eq_false h1,pS];refine sPx Tryz.func182 rfl rfl ?_;simp -dsimp[Tryz.f182,ou,dt,h0,show ¬0<t.v by omega]
theorem ip{P:Program}{f:FuncId}{args:List V}{H Hf:List B}{v:V}(h:aZ P f args H fun r H'=>r=v∧∃G,H'=Hf++G)(hr:rb Hf.length v)(hb:H.length≤Hf.length∧∀bl∈Hf,rbB Hf.length bl):aZ P f args H fun r H'=>r=v∧H'=Hf:=by
 refine(kd (σ:=Unit) (ok:=fun _=>True) (rf:=fun _=>v) (Hf:=fun _=>Hf) (h.mono fun r H' ⟨a,G,b⟩=>⟨(),trivial,a,G,b⟩) (fun _ _=>hb.1) (fun _ _=>hr) (fun _ _=>hb.2)).mono ?_;rintro r H' ⟨_,_,a,b⟩;exact⟨a,b⟩
theorem atom_no(n:Int)(d:Dn)(f:Bool)(a:At):∀H:List B,H=[B.cells [.int .i64 n],B.cells [.int .i64 d.vars,LA f d.atoms]]→aI Tryz.prog (.fn 181 [.ptr 0 0,.ptr 1 0]) [du a] H fun r H'=>r = .bool (!atB n d.vars a)∧H'=H:=by
 intro H hH;have c1:=termValid n d.vars a.l;have c2:=termValid n d.vars a.r;simp only[dt]at c1 c2;simp only[aI,pn,pU];refine ip ?_ (by simp[rb,rb1]) (by subst hH;simp[LA]);subst hH;simp only[LA];by_cases o1:a.op<1
 ·rw[show atB n d.vars a=false by unfold atB;rw[decide_eq_false (by omega)];rfl];refine aK tok Tryz.func181 rfl rfl ?_;refine wx ?_;simp -dsimp[Tryz.f181,ou,du,LA,o1]
 by_cases o2:4<a.op
 ·rw[show atB n d.vars a=false by unfold atB;rw[decide_eq_true (by omega),decide_eq_false (by omega)];rfl];refine aK tok Tryz.func181 rfl rfl ?_;refine wx ?_;simp -dsimp[Tryz.f181,ou,du,LA,o1,o2]
 have hat:atB n d.vars a=(tmB n d.vars a.l&&tmB n d.vars a.r):=by unfold atB;rw[decide_eq_true (by omega),decide_eq_true (by omega)];rfl
 rw[hat]
 cases q1:tmB n d.vars a.l with
 | false =>
  rw[q1]at c1;refine aK tok Tryz.func181 rfl rfl ?_;refine wx ?_;simp -dsimp[Tryz.f181,ou,du,LA,o1,o2];refine cPx (c1) (by simp) ?_;simp -dsimp[]
 | true =>
  rw[q1]at c1;refine aK tok Tryz.func181 rfl rfl ?_;refine wx ?_;simp -dsimp[Tryz.f181,ou,du,LA,o1,o2];refine cPx (c1) (by simp) ?_;simp -dsimp[];refine cPx (c2) (by simp) ?_;simp -dsimp[]
theorem mM{α:Type}(p:α→Bool)(l:List α):(!l.any fun a=>!p a)=l.all p:=by
 induction l with
 | nil=>rfl
 | cons a l ih=>rw[ql,qk,←ih];cases p a<;>simp
theorem validD_u(n:Int)(d:Dn)(f:Bool)(hl:d.atoms.length≤1000000):aE Tryz.prog 127 [.int .i64 n,gn f d] fun r=>r = .bool (dnB n d):=by
 unfold dnB;by_cases h1:1≤d.vars
 case neg =>
  rw[decide_eq_false h1,pS];refine sPx Tryz.func127 rfl rfl ?_;simp -dsimp[Tryz.f127,ou,gn,LA,show d.vars<1 by omega]
 rw[decide_eq_true h1,pP];by_cases h2:d.vars≤3
 case neg =>
  rw[decide_eq_false h2,pS];refine sPx Tryz.func127 rfl rfl ?_;simp -dsimp[Tryz.f127,ou,gn,LA,show ¬d.vars<1 by omega,show 3<d.vars by omega]
 rw[decide_eq_true h2,pP];by_cases h3:d.atoms.length≤20
 case neg =>
  rw[decide_eq_false h3,pS];refine sPx Tryz.func127 rfl rfl ?_;simp -dsimp[Tryz.f127,ou,gn,LA,show ¬d.vars<1 by omega,show ¬3<d.vars by omega,show(20:Int)<d.atoms.length by omega]
 rw[decide_eq_true h3,pP,←mM];have hc:=cont_A [B.cells [.int .i64 n],B.cells [.int .i64 d.vars,LA f d.atoms]] (.fn 181 [.ptr 0 0,.ptr 1 0]) (fun a=>!atB n d.vars a) d.atoms f hl (by simp[LA]) (by simp) (fun m _=>atom_no n d f m _ rfl);simp only[LA]at hc;refine sPx Tryz.func127 rfl rfl ?_;simp -dsimp[Tryz.f127,ou,gn,LA,show ¬d.vars<1 by omega,show ¬3<d.vars by omega,show ¬(20:Int)<d.atoms.length by omega];refine aI.mono (K:=fun r H'=>r = .bool (d.atoms.any fun a=>!atB n d.vars a)∧H'=[B.cells [.int .i64 n],B.cells [.int .i64 d.vars,.lst 11 f (d.atoms.map du)]]) hc ?_;rintro r H' ⟨rfl,rfl⟩;simp -dsimp[]
def TmOk(rs:List Rw)(t:Tm):Prop:=t.v=0∨∃(k a:Nat) (hk:k<rs.length),t.v=(k:Int)+1∧t.a=(a:Int)∧a<rs[k].vals.length
theorem tmV_at{rs:List Rw}{t:Tm}{k a:Nat}(hk:k<rs.length)(h1:t.v=(k:Int)+1)(h2:t.a=(a:Int))(h3:a<rs[k].vals.length):tmV rs t=rs[k].vals[a]:=by
 unfold tmV;rw[if_neg (by omega),h1,h2]
 have e1:((k:Int)+1-1).toNat=k:=by omega
 have e2:((a:Int)).toNat=a:=by omega
 rw[e1,e2];simp[hk,h3]
theorem wrapM(k:Nat)(h:k<9223372036854775806):IntKind.i64.wrap ((k:Int)+1-1)=(k:Int):=by rw[wrap64 (by omega) (by omega)];omega
theorem get_u(t:Tm)(rs:List Rw)(f:Bool)(h:TmOk rs t)(hl:rs.length≤1000000):aE Tryz.prog 271 [LR f rs,dt t] fun r=>r=ac (tmV rs t):=by
 rcases h with h | ⟨k,a,hk,h1,h2,h3⟩
 ·have ht:tmV rs t=t.x:=by simp[tmV,h]
  rw[ht];refine sPx Tryz.func271 rfl rfl ?_;simp -dsimp[Tryz.f271,ou,dt,h,ac]
 ·have ht:=tmV_at hk h1 h2 h3;obtain⟨r,hr⟩:∃r,r=rs[k]:=⟨_,rfl⟩;simp only[←hr]at ht h3;obtain⟨v,hv⟩:∃v,v=r.vals[a]:=⟨_,rfl⟩;rw[ht,←hv];refine sPx Tryz.func271 rfl rfl ?_;simp -dsimp[Tryz.f271,ou,dt,LR,LV,aT,ac,h1,h2,show ¬(k:Int)+1=0 by omega,hk,hr.symm,h3,hv.symm,wrapM k (by omega),eJ k (by omega)];refine aR (ao tok mixed [11] [] [] (by kernel_rfl) fun C K hC hK=>?_);simp -implicitDefEqProofs [dt,LR,LV,aT,ac,h1,h2,hk,hr.symm,h3,hv.symm,wrapM k (by omega),eJ k (by omega)];refine hK _ _ ?_;simp -dsimp[];rfl
structure AtOk (rs:List Rw) (a:At):Prop where
 l:TmOk rs a.l
 r:TmOk rs a.r
 lo:1≤a.op
 hi:a.op≤4
 sz:(tmV rs a.l).s.size≤maxLen
theorem inB_no1{n a:Int}(h:¬0≤a):inB n a=false:=by simp[inB,h]
theorem inB_no2{n a:Int}(h:¬a<n):inB n a=false:=by simp[inB,h]
theorem inB_yes{n a:Int}(h:0≤a)(h2:a<n):inB n a=true:=by simp[inB,h,h2]
theorem list1_u(n:Int)(a:Int):∀H:List B,H=[B.cells [.int .i64 n]]→aI Tryz.prog (.fn 239 [.ptr 0 0]) [.int .i64 a] H fun r H'=>r = .bool (!inB n a)∧H'=H:=by
 intro H hH;subst hH;simp only[aI,pn,pU];by_cases h1:0≤a
 ·by_cases h2:a<n
  ·rw[inB_yes h1 h2];refine aK tok Tryz.func239 rfl rfl ?_;refine wx ?_;simp -dsimp[Tryz.f239,ou,show ¬a<0 by omega,show ¬n≤a by omega]
  ·rw[inB_no2 h2];refine aK tok Tryz.func239 rfl rfl ?_;refine wx ?_;simp -dsimp[Tryz.f239,ou,show ¬a<0 by omega,show n≤a by omega]
 ·rw[inB_no1 h1];refine aK tok Tryz.func239 rfl rfl ?_;refine wx ?_;simp -dsimp[Tryz.f239,ou,show a<0 by omega]
theorem list_u(n:Int)(l:List Int)(f:Bool)(hl:l.length≤1000000):aE Tryz.prog 185 [.int .i64 n,L1 f l] fun r=>r = .bool (olB n l):=by
 unfold olB;rw[←mM];by_cases h8:l.length≤8
 ·have hc:=cont_I [B.cells [.int .i64 n]] (.fn 239 [.ptr 0 0]) (fun a=>!inB n a) l f hl (by simp) (by simp) (fun m _=>list1_u n m _ rfl);simp only[L1]at hc;rw[decide_eq_true h8,pP];refine sPx Tryz.func185 rfl rfl ?_;simp -dsimp[Tryz.f185,ou,L1,show(l.length:Int)≤8 by omega];refine aI.mono (K:=fun r H'=>r = .bool (l.any fun a=>!inB n a)∧H'=[B.cells [.int .i64 n]]) hc ?_;rintro r H' ⟨rfl,rfl⟩;simp -dsimp[]
 ·rw[decide_eq_false h8,pS];refine sPx Tryz.func185 rfl rfl ?_;simp -dsimp[Tryz.f185,ou,L1,show ¬(l.length:Int)≤8 by omega]
theorem validO_u(n:Int)(d:Od)(f g:Bool)(hl:d.l.length≤1000000)(hr:d.r.length≤1000000):aE Tryz.prog 129 [.int .i64 n,iV f g d] fun r=>r = .bool (odB n d):=by
 have c1:=list_u n d.l f hl;have c2:=list_u n d.r g hr;unfold odB;simp only[L1]at c1 c2
 cases h:olB n d.l with
 | false =>
  rw[h]at c1;refine sPx Tryz.func129 rfl rfl ?_;simp -dsimp[Tryz.f129,ou,iV,L1];refine cPx (c1) (by simp) ?_;simp -dsimp[]
 | true =>
  rw[h]at c1;refine sPx Tryz.func129 rfl rfl ?_;simp -dsimp[Tryz.f129,ou,iV,L1];refine cPx (c1) (by simp) ?_;simp -dsimp[];refine cPx (c2) (by simp) ?_;simp -dsimp[]
def my(n:Nat)(l:List Int):Prop:=∀a∈l,0≤a∧a<n
theorem ol_ats{n:Nat}{l:List Int}(h:olB n l=true):my n l:=fun a ha=>by
 unfold olB at h;rw[pC,pV]at h;have:=h.2 a ha;simpa[inB] using this
theorem jN{vs:List Vl}{k:Nat}(h:k<vs.length):vAt vs ((k:Nat):Int).toNat=vs[k]:=by rw[rD];exact vAt_in h
theorem cmpO_u(a b:Rw)(l:List Int)(f:Bool)(n:Nat)(ha:a.vals.length=n)(hb:b.vals.length=n)(hl:l.length≤1000000)(ho:my n l):aE Tryz.prog 241 [aT a,aT b,L1 f l] fun r=>r = .int .i64 (kr a b l):=by
 obtain⟨E,hE⟩:∃E,E=kr a b l:=⟨_,rfl⟩;rw[←hE];refine sPx Tryz.func241 rfl rfl ?_;simp -dsimp[Tryz.f241,ou,L1,aT,LV];refine aR (W_loopM 31 0x7ffff340 (by simp[mB]<;>rfl) (σ:=Nat) (fun i=>kr a b (l.drop i)=E) (fun i=>l.length-i) (fun i=>[(12,.int .i64 i)]) (fun _=>[B.cells [.int .i64 a.id,.lst 3 false (a.vals.map ac)],B.cells [.int .i64 b.id,.lst 3 false (b.vals.map ac)]]) 0 (by rw[hE,pT]) (by simp) (by simp) (by simp) ?_);intro i hx N Q hN hQ;by_cases hi:i<l.length
 ·rw[pB hi,kr]at hx;obtain⟨h1,h2⟩:=ho _ (ow hi);obtain⟨k,hk⟩:=qy h1
  have hka:k<a.vals.length:=by omega
  have hkb:k<b.vals.length:=by omega
  rw[hk,jN hka,jN hkb]at hx;obtain⟨x,hxx⟩:∃x,x=a.vals[k]:=⟨_,rfl⟩;obtain⟨y,hyy⟩:∃y,y=b.vals[k]:=⟨_,rfl⟩;rw[←hxx,←hyy]at hx;have c:=lP x y;simp only[ac]at c;by_cases h0:kC x y=0
  ·rw[if_pos h0]at hx;rw[h0]at c;refine wx ?_;simp -dsimp[hi,hk,au,ac,hka,hkb,hxx.symm,hyy.symm];refine .inr ⟨bN (by kernel_rfl),?_⟩;refine ar _ (aW (c) (by simp)) ?_;simp -dsimp[aa i (by omega)];refine hN (i+1) _ _ hx (by omega) (by simp) ⟨_,rfl⟩ (by simp[au]) (by simp)
  ·rw[if_neg h0]at hx;refine wx ?_;simp -dsimp[hi,hk,au,ac,hka,hkb,hxx.symm,hyy.symm];refine .inr ⟨bN (by kernel_rfl),?_⟩;refine ar _ (aW (c) (by simp)) ?_;simp -dsimp[h0];refine hQ _ _ _ ?_;simp -dsimp[];rw[hx]
 ·rw[pF (by omega),kr]at hx;refine wx ?_;simp -dsimp[hi];refine hQ _ _ _ ?_;simp -dsimp[];rw[←hx]
theorem wrapX{p q:Int}(hp : -1≤p∧p≤1)(hq : -1≤q∧q≤1):IntKind.i64.wrap (p*q)=p*q:=by
 have : -1≤p*q∧p*q≤1:=by
  obtain rfl | rfl | rfl:p = -1∨p=0∨p=1:=by omega
  ·omega
  ·omega
  ·omega
 exact wrap64 (by omega) (by omega)
theorem kind_u(a b:Rw)(d:Od)(f g:Bool)(n:Nat)(ha:a.vals.length=n)(hb:b.vals.length=n)(hl:d.l.length≤1000000)(hr:d.r.length≤1000000)(h1:my n d.l)(h2:my n d.r):aE Tryz.prog 192 [aT a,aT b,iV f g d] fun r=>r = .int .i64 (kindO d a b):=by
 have c1:=cmpO_u a b d.l f n ha hb hl h1;have c2:=cmpO_u a b d.r g n ha hb hr h2;have w:=wrapX (oR a b d.l) (oR a b d.r);unfold kindO;obtain⟨p,hp⟩:∃p,p=kr a b d.l:=⟨_,rfl⟩;obtain⟨q,hq⟩:∃q,q=kr a b d.r:=⟨_,rfl⟩;rw[←hp]at c1 w ⊢;rw[←hq]at c2 w ⊢;simp only[L1,aT,LV]at c1 c2;by_cases h3:p=0
 ·by_cases h4:q=0
  ·rw[if_neg (by simp[h4]),if_neg (by rw[h3];omega)];refine sPx Tryz.func192 rfl rfl ?_;simp -dsimp[Tryz.f192,ou,L1,aT,LV,iV];refine .inr ⟨bN (by kernel_rfl),?_⟩;refine ar _ (aW (c1) (by simp)) ?_;simp -dsimp[];refine ar _ (aW (c2) (by simp)) ?_;simp -dsimp[h3,h4,w,show IntKind.i64.wrap (0:Int)=0 from wrap64 (by omega) (by omega)]
  ·rw[if_pos ⟨h3,h4⟩];refine sPx Tryz.func192 rfl rfl ?_;simp -dsimp[Tryz.f192,ou,L1,aT,LV,iV];refine .inr ⟨bN (by kernel_rfl),?_⟩;refine ar _ (aW (c1) (by simp)) ?_;simp -dsimp[];refine ar _ (aW (c2) (by simp)) ?_;simp -dsimp[h3,h4]
 ·rw[if_neg (fun h=>h3 h.1)];by_cases h5:p*q<0
  ·rw[if_pos h5];refine sPx Tryz.func192 rfl rfl ?_;simp -dsimp[Tryz.f192,ou,L1,aT,LV,iV];refine .inr ⟨bN (by kernel_rfl),?_⟩;refine ar _ (aW (c1) (by simp)) ?_;simp -dsimp[];refine ar _ (aW (c2) (by simp)) ?_;simp -dsimp[h3,w,h5]
  ·rw[if_neg h5];refine sPx Tryz.func192 rfl rfl ?_;simp -dsimp[Tryz.f192,ou,L1,aT,LV,iV];refine .inr ⟨bN (by kernel_rfl),?_⟩;refine ar _ (aW (c1) (by simp)) ?_;simp -dsimp[];refine ar _ (aW (c2) (by simp)) ?_;simp -dsimp[h3,w,h5]
theorem ascI_cons(n r b a:Int)(l:List Int):ascI n r b (a::l)=(decide (b<a)&&(decide (a<n)&&(!decide (a=r)&&ascI n r a l))):=rfl
theorem ascI_ats{n r:Int} : ∀{l:List Int} {b:Int},-1≤b→ascI n r b l=true→∀a∈l,0≤a∧a<n
 | [],_,_,_,a,h=>by cases h
 | x::l,b,hb,h,a,ha=>by
  rw[ascI_cons,pC,pC,pC,decide_eq_true_eq,decide_eq_true_eq]at h
  rcases List.mem_cons.1 ha with rfl | ha
  ·exact⟨by omega,h.2.1⟩
  ·exact ascI_ats (b:=x) (by omega) h.2.2.2 a ha
theorem valid1C(c:Cl):aE Tryz.prog 184 [dG c] fun r=>r = .bool (!clB c):=by
 have cv:=kx c.x;simp only[ac]at cv;unfold clB nV
 cases ha:c.any with
 | true =>
  rw[if_pos rfl]
  have hv:∀b,kq ⟨c.x.k,c.x.n,c.x.s⟩ ⟨0,0,pE⟩=b→kq c.x ⟨0,0,pE⟩=b:=fun b h=>h
  cases hz:kq ⟨c.x.k,c.x.n,c.x.s⟩ ⟨0,0,pE⟩ with
  | true =>
   refine sPx Tryz.func184 rfl rfl ?_;simp -dsimp[Tryz.f184,ou,dG,ha,eqVl,hz]
  | false =>
   refine sPx Tryz.func184 rfl rfl ?_;simp -dsimp[Tryz.f184,ou,dG,ha,eqVl,hz]
 | false =>
  rw[if_neg (by simp)];refine sPx Tryz.func184 rfl rfl ?_;simp -dsimp[Tryz.f184,ou,dG,ha];refine cPx (cv) (by simp) ?_;simp -dsimp[]
theorem validC_u(n:Nat)(c:Cfd)(f g:Bool)(hn:n≤16)(hl:c.l.length≤1000000)(hp:c.p.length≤1000000):aE Tryz.prog 128 [.int .i64 n,gT f g c] fun r=>r = .bool (cfB n c):=by
 have n1:¬(n:Int)<0:=by omega
 have n2:¬(16:Int)<n:=by omega
 have wl:=aa c.l.length (by omega);unfold cfB;by_cases h1:0≤c.r
 case neg =>
  rw[decide_eq_false h1,pS];refine sPx Tryz.func128 rfl rfl ?_;simp -dsimp[Tryz.f128,ou,gT,L1,LCl,n1,n2,show c.r<0 by omega]
 rw[decide_eq_true h1,pP]
 have h1':¬c.r<0:=by omega
 by_cases h2:c.r<n
 case neg =>
  rw[decide_eq_false h2,pS];refine sPx Tryz.func128 rfl rfl ?_;simp -dsimp[Tryz.f128,ou,gT,L1,LCl,n1,n2,h1',show(n:Int)≤c.r by omega]
 rw[decide_eq_true h2,pP]
 have h2':¬(n:Int)≤c.r:=by omega
 by_cases h3:c.p.length=c.l.length+1
 case neg =>
  rw[decide_eq_false h3,pS];refine sPx Tryz.func128 rfl rfl ?_;simp -dsimp[Tryz.f128,ou,gT,L1,LCl,n1,n2,h1',h2',wl,h3,show ¬(c.p.length:Int)=(c.l.length:Int)+1 by omega]
 rw[decide_eq_true h3,pP];obtain⟨E,hE⟩:∃E,E=ascI n c.r (-1) c.l:=⟨_,rfl⟩;rw[←hE];refine sPx Tryz.func128 rfl rfl ?_;simp -dsimp[Tryz.f128,ou,gT,L1,LCl,n1,n2,h1',h2',wl,h3,show(c.p.length:Int)=(c.l.length:Int)+1 by omega];refine aR (W_loopM 58 0x3ffffc0000000b0 (by simp[mB]<;>rfl) (σ:=Nat×Int) (fun p=>ascI n c.r p.2 (c.l.drop p.1)=E) (fun p=>c.l.length-p.1) (fun p=>[(38,.int .i64 p.1),(5,.int .i64 p.2)]) (fun _=>[B.cells [.lst 1 f (c.l.map au),.int .i64 c.r,.lst 4 g (c.p.map dG)]]) (0,-1) (by rw[hE];rfl) (by simp) (by simp) (by simp) ?_);rintro⟨i,b⟩ hx N Q hN hQ;simp only at hx;by_cases hi:i<c.l.length
 ·rw[pB hi,ascI_cons]at hx;obtain⟨a,ha⟩:∃a,a=c.l[i]:=⟨_,rfl⟩;rw[←ha]at hx;by_cases q1:b<a
  case neg =>
   rw[decide_eq_false q1,pS]at hx;refine wx ?_;simp -dsimp[hi,ha.symm,au,show a≤b by omega];refine hQ _ _ _ ?_;simp -dsimp[];rw[←hx];simp
  rw[decide_eq_true q1,pP]at hx;by_cases q2:a<n
  case neg =>
   rw[decide_eq_false q2,pS]at hx;refine wx ?_;simp -dsimp[hi,ha.symm,au,show ¬a≤b by omega,show(n:Int)≤a by omega];refine hQ _ _ _ ?_;simp -dsimp[];rw[←hx];simp
  rw[decide_eq_true q2,pP]at hx;by_cases q3:a=c.r
  ·rw[decide_eq_true q3,Bool.not_true,pS]at hx;have ha2:c.l[i]=c.r:=ha.symm.trans q3;refine wx ?_;simp -dsimp[hi,ha2,au,show ¬c.r≤b by omega,show ¬(n:Int)≤c.r by omega];refine hQ _ _ _ ?_;simp -dsimp[];rw[←hx];simp
  ·rw[decide_eq_false q3,sR,pP]at hx;refine wx ?_;simp -dsimp[hi,ha.symm,au,show ¬a≤b by omega,show ¬(n:Int)≤a by omega,q3,aa i (by omega)];refine hN (i+1,a) _ _ hx (by simp only;omega) (by simp) ⟨_,rfl⟩ (by simp[au]) (by simp[au])
 ·rw[pF (by omega)]at hx;have hx2:true=E:=hx
  obtain⟨u,hu⟩:∃u,u=c.p.any fun a=>!clB a:=⟨_,rfl⟩
  have hfin:(!u)=(E&&c.p.all clB):=by rw[hu,mM,←hx2];rfl
  have hc:=cont_L [B.cells [.lst 1 f (c.l.map au),.int .i64 c.r,.lst 4 g (c.p.map dG)]] (.fn 184 []) (fun a=>!clB a) c.p g hp (by simp[au]) (by simp) (fun m _=>aW (valid1C m) (by simp));simp only[LCl]at hc;refine wx ?_;simp -dsimp[hi];refine hQ _ _ _ ?_;simp -dsimp[];rw[←hu]at hc;refine aI.mono (K:=fun r H'=>r = .bool u∧H'=[B.cells [.lst 1 f (c.l.map au),.int .i64 c.r,.lst 4 g (c.p.map dG)]]) hc ?_;rintro r H' ⟨rfl,rfl⟩;rw[←hfin];simp -dsimp[]
theorem fits_u(c:Cl)(v:Vl):aE Tryz.prog 187 [dG c,ac v] fun r=>r = .bool (clF c v):=by
 unfold clF
 cases ha:c.any with
 | true =>
  refine sPx Tryz.func187 rfl rfl ?_;simp -dsimp[Tryz.f187,ou,ac,dG,ha]
 | false =>
  refine sPx Tryz.func187 rfl rfl ?_;simp -dsimp[Tryz.f187,ou,ac,dG,ha,eqVl]
theorem right_u(c:Cfd)(f g:Bool)(hp:c.p.length=c.l.length+1):aE Tryz.prog 188 [gT f g c] fun r=>r=dG (clAt c.p c.l.length):=by
 have hb:c.l.length<c.p.length:=by omega
 have he:clAt c.p c.l.length=c.p[c.l.length]:=by simp[clAt,hb]
 rw[he];obtain⟨k,hk⟩:∃k,k=c.l.length:=⟨_,rfl⟩;simp only[←hk]at hb ⊢;obtain⟨x,hx⟩:∃x,x=c.p[k]:=⟨_,rfl⟩;rw[←hx];refine sPx Tryz.func188 rfl rfl ?_;simp -dsimp[Tryz.f188,ou,gT,L1,LCl,dG,hk.symm,hb,hx.symm]
theorem left_u(c:Cfd)(r:Rw)(f g f2:Bool)(n:Nat)(hv:r.vals.length=n)(ho:my n c.l)(hp:c.p.length=c.l.length+1)(hl:c.l.length≤1000000):aE Tryz.prog 186 [gT f g c,LV f2 r.vals] fun x=>x = .bool (kv c r):=by
 obtain⟨E,hE⟩:∃E,E=kv c r:=⟨_,rfl⟩;rw[←hE];refine sPx Tryz.func186 rfl rfl ?_;simp -dsimp[Tryz.f186,ou,gT,L1,LCl,LV];refine aR (W_loopM 27 0x7fffc70 (by simp[mB]<;>rfl) (σ:=Nat) (fun i=>leftT c r i (c.l.drop i)=E) (fun i=>c.l.length-i) (fun i=>[(10,.int .i64 i)]) (fun _=>[B.cells [.lst 1 f (c.l.map au),.int .i64 c.r,.lst 4 g (c.p.map dG)]]) 0 (by rw[hE];rfl) (by simp) (by simp) (by simp) ?_);intro i hx N Q hN hQ;by_cases hi:i<c.l.length
 ·rw[pB hi,leftT]at hx;obtain⟨h1,h2⟩:=ho _ (ow hi);obtain⟨k,hk⟩:=qy h1
  have hkv:k<r.vals.length:=by omega
  have hip:i<c.p.length:=by omega
  have hce:clAt c.p i=c.p[i]:=by simp[clAt,hip]
  rw[hk,jN hkv,hce]at hx;obtain⟨x,hxx⟩:∃x,x=r.vals[k]:=⟨_,rfl⟩;obtain⟨y,hyy⟩:∃y,y=c.p[i]:=⟨_,rfl⟩;rw[←hxx,←hyy]at hx;have cc:=fits_u y x;simp only[ac,dG]at cc
  cases hq:clF y x with
  | true =>
   rw[hq]at cc hx;refine wx ?_;simp -dsimp[hi,hk,au,ac,dG,hkv,hip,hxx.symm,hyy.symm];refine .inr ⟨bN (by kernel_rfl),?_⟩;refine ar _ (aW (cc) (by simp)) ?_;simp -dsimp[aa i (by omega)];refine hN (i+1) _ _ (by simpa using hx) (by omega) (by simp) ⟨_,rfl⟩ (by simp[au]) (by simp[au])
  | false =>
   rw[hq]at cc hx;refine wx ?_;simp -dsimp[hi,hk,au,ac,dG,hkv,hip,hxx.symm,hyy.symm];refine .inr ⟨bN (by kernel_rfl),?_⟩;refine ar _ (aW (cc) (by simp)) ?_;simp -dsimp[];refine hQ _ _ _ ?_;simp -dsimp[];simpa using hx
 ·rw[pF (by omega),leftT]at hx;refine wx ?_;simp -dsimp[hi];refine hQ _ _ _ ?_;simp -dsimp[];rw[←hx]
end
end Go.Proofs.YtjogkbekekdkjaaGreatDoor
