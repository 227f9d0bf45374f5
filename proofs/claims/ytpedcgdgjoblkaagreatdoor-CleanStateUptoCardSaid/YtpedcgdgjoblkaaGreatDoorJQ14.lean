/- JQ14: own texts of this seat, joined and shortened by pack4.py: Opq, Opr. -/
import Derived.Test.YtpedcgdgjoblkaaGreatDoorJQ12
import Derived.Test.YtpedcgdgjoblkaaGreatDoorJQ13
set_option linter.unusedVariables false
set_option linter.unusedSimpArgs false
set_option maxRecDepth 100000
set_option maxHeartbeats 64000000
open Int renaming toNat_of_nonneg→pF
open Nat renaming le_trans→kT
namespace Go.Proofs.YtpedcgdgjoblkaaGreatDoor
section
open Go Go.AM
theorem cZ{α:Type}{enc:α→V}{p:α→Prop} : ∀{xs:List V},(∀x∈xs,∃a,x=enc a∧p a)→∃ys:List α,xs=ys.map enc∧∀y∈ys,p y
 | [],_=>⟨[],rfl,by simp⟩
 | x::xs,h=>by
  obtain⟨a,rfl,ha⟩:=h x (by simp);obtain⟨ys,rfl,hy⟩:=cZ (xs:=xs) (fun y hy=>h y (by simp[hy]));exact⟨a::ys,rfl,fun y hm=>(List.mem_cons.1 hm).elim (fun e=>e▸ha) (hy y)⟩
theorem bq{n Bd:Nat}{ws:List V}(h:ShB T Bd (n+1) 5 ws):∃m:Int,ws=[.int .u8 m]∧0≤m∧m<256:=by
 simp[ShB]at h;obtain⟨m,rfl,hm⟩:=h;refine⟨m,rfl,?_⟩;simp[Lit.wf,IntKind.min,IntKind.max,IntKind.signed,IntKind.bits]at hm;omega
theorem bu{n Bd t:Nat}{i:TI}{fs:Array Field}{sz:Nat}{ws:List V}(h:ShB T Bd (n+1) t ws)(hT:T t=some i)(hd:i.desc = .struct fs)(hs:i.size=sz):ws.length=sz∧∀(k:Nat) f j,fs[k]?=some f→T f.type=some j→ShB T Bd n f.type ((ws.drop f.offset).take j.size):=by
 rw[ShB]at h;simp only[hT,hd]at h;refine⟨by rw[←hs];exact h.1,fun k f j hk hj=>?_⟩;obtain⟨j',h1,h2⟩:=h.2 f (by rw[Array.mem_toList_iff];exact Array.mem_of_getElem? hk);rw[hj]at h1;cases h1;exact h2
theorem fi{n Bd t e:Nat}{i j:TI}{ws:List V}(h:ShB T Bd (n+1) t ws)(hT:T t=some i)(hd:i.desc = .slice e)(hj:T e=some j):∃xs,ws=[.lst j.size false xs]∧xs.length≤maxLen∧xs.length≤Bd∧∀x∈xs,∃ws,ShB T Bd n e ws∧ws.length=j.size∧x=(if bK j.desc then .agg ws else ws.headD .undef):=by
 rw[ShB]at h;simp only[hT,hd,hj]at h;exact h
theorem shq_lst{n Bd t e:Nat}{i j:TI}{ws:List V}(h:ShB T Bd (n+1) t ws)(hT:T t=some i)(hd:i.desc = .slice e)(hj:T e=some j):∃xs,ws=[.lst j.size false xs]∧xs.length≤maxLen∧∀x∈xs,∃ws,ShB T Bd n e ws∧ws.length=j.size∧x=(if bK j.desc then .agg ws else ws.headD .undef):=by
 obtain⟨xs,h1,h2,_,h3⟩:=fi h hT hd hj;exact⟨xs,h1,h2,h3⟩
theorem eO{n Bd:Nat}{ws:List V}(h:ShB T Bd (n+2) 55 ws):∃ns:List Int,ws=[LU ns]∧ns.length≤maxLen∧∀c∈ns,0≤c∧c<256:=by
 obtain⟨ys,rfl,hl2,hy⟩:=shq_lst h T_55 rfl T_5
 obtain⟨ns,rfl,hn⟩:∃ns:List Int,ys=ns.map bp∧∀c∈ns,0≤c∧c<256:=cZ fun y hym=>by
  obtain⟨ws,hs,_,rfl⟩:=hy y hym;obtain⟨m,rfl,hm⟩:=bq hs;exact⟨m,by simp[bK,bp],hm⟩
 exact⟨ns,by simp[LU],by simpa using hl2,hn⟩
theorem shq_rows{n Bd:Nat}{ws:List V}(h:ShB T Bd (n+3) 22 ws):∃rs:List (List Int),ws=[.lst 1 false (rs.map LU)]∧rs.length≤maxLen∧∀r∈rs,r.length≤maxLen:=by
 obtain⟨xs,rfl,hl,hx⟩:=shq_lst h T_22 rfl T_55
 obtain⟨rs,rfl,hr⟩:∃rs:List (List Int),xs=rs.map LU∧∀r∈rs,r.length≤maxLen:=cZ fun x hxm=>by
  obtain⟨ws,hs,_,rfl⟩:=hx x hxm;obtain⟨ns,rfl,h1,_⟩:=eO hs;exact⟨ns,by simp[bK],h1⟩
 exact⟨rs,rfl,by simpa using hl,hr⟩
theorem shq_recipe{n Bd:Nat}{ws:List V}(h:ShB T Bd (n+4) 24 ws):∃r:Rcp,ws=[.int .u8 r.a,.int .u8 r.gap,.lst 1 false (r.rows.map LU)]∧(0≤r.a∧r.a<256)∧0≤r.gap∧r.rows.length≤maxLen∧∀x∈r.rows,x.length≤maxLen:=by
 obtain⟨hlen,hf⟩:=bu h T_24 rfl rfl
 obtain⟨a,b,c,rfl⟩:∃a b c,ws=[a,b,c]:=by
  match ws,hlen with
  | [a,b,c],_=>exact⟨a,b,c,rfl⟩
 obtain⟨m,e1,p1⟩:=bq (hf 0 _ _ rfl T_5);obtain⟨k,e2,q1,q2⟩:=bq (hf 1 _ _ rfl T_5);obtain⟨rs,e3,l1,l2⟩:=shq_rows (hf 2 _ _ rfl T_22);simp at e1 e2 e3;subst e1;subst e2;subst e3;exact⟨⟨m,k,rs⟩,rfl,p1,q1,l1,l2⟩
theorem shq_dep{n Bd:Nat}{ws:List V}(h:ShB T Bd (n+2) 171 ws):∃d:Fd,ws=[.int .u8 (d.l:Int),.int .u8 (d.r:Int)]∧d.l<256∧d.r<256:=by
 obtain⟨hlen,hf⟩:=bu h T_171 rfl rfl
 obtain⟨a,b,rfl⟩:∃a b,ws=[a,b]:=by
  match ws,hlen with
  | [a,b],_=>exact⟨a,b,rfl⟩
 obtain⟨m,e1,p1,p2⟩:=bq (hf 0 _ _ rfl T_5);obtain⟨k,e2,q1,q2⟩:=bq (hf 1 _ _ rfl T_5);simp at e1 e2;subst e1;subst e2;refine⟨⟨m.toNat,k.toNat⟩,?_,by simp only;omega,by simp only;omega⟩;simp[pF p1,pF q1]
theorem shq_side{n Bd:Nat}{ws:List V}(h:ShB T Bd (n+2) 293 ws):∃v c:Int,ws=[.int .u8 v,.int .u8 c]∧(0≤v∧v<256)∧(0≤c∧c<256):=by
 obtain⟨hlen,hf⟩:=bu h T_293 rfl rfl
 obtain⟨a,b,rfl⟩:∃a b,ws=[a,b]:=by
  match ws,hlen with
  | [a,b],_=>exact⟨a,b,rfl⟩
 obtain⟨m,e1,p1⟩:=bq (hf 0 _ _ rfl T_5);obtain⟨k,e2,q1⟩:=bq (hf 1 _ _ rfl T_5);simp at e1 e2;subst e1;subst e2;exact⟨m,k,rfl,p1,q1⟩
theorem shq_snt{n Bd:Nat}{ws:List V}(h:ShB T Bd (n+3) 295 ws):∃s:Snt,ws=[.int .u8 s.lv,.int .u8 s.lc,.int .u8 s.op,.int .u8 s.rv,.int .u8 s.rc]∧SntOk s:=by
 obtain⟨hlen,hf⟩:=bu h T_295 rfl rfl
 obtain⟨a,b,c,d,e,rfl⟩:∃a b c d e,ws=[a,b,c,d,e]:=by
  match ws,hlen with
  | [a,b,c,d,e],_=>exact⟨a,b,c,d,e,rfl⟩
 obtain⟨v,x,e1,p1,p2⟩:=shq_side (show ShB T Bd (n+2) 293 [a,b] from hf 0 _ _ rfl T_293);obtain⟨o,e2,q1⟩:=bq (hf 1 _ _ rfl T_5);obtain⟨w,y,e3,r1,r2⟩:=shq_side (show ShB T Bd (n+2) 293 [d,e] from hf 2 _ _ rfl T_293);simp at e1 e2 e3;obtain⟨rfl,rfl⟩:=e1;obtain⟨rfl,rfl⟩:=e3;subst e2;exact⟨⟨v,x,o,w,y⟩,rfl,⟨p1,p2,q1,r1,r2⟩⟩
theorem shq_snts{n Bd:Nat}{ws:List V}(h:ShB T Bd (n+4) 176 ws):∃l:List Snt,ws=[.lst 5 false (l.map cP)]∧l.length≤Bd∧∀s∈l,SntOk s:=by
 obtain⟨xs,rfl,_,hl,hx⟩:=fi h T_176 rfl T_295
 obtain⟨l,rfl,hs⟩:∃l:List Snt,xs=l.map cP∧∀s∈l,SntOk s:=cZ fun x hxm=>by
  obtain⟨ws,hs,_,rfl⟩:=hx x hxm;obtain⟨s,rfl,h1⟩:=shq_snt hs;exact⟨s,by simp[bK,cP],h1⟩
 exact⟨l,rfl,by simpa using hl,hs⟩
theorem shq_rule{n Bd:Nat}(hB:Bd≤1048576){ws:List V}(h:ShB T Bd (n+6) 180 ws):∃r:Rul,.agg ws=aq r∧RulOk r:=by
 obtain⟨hlen,hf⟩:=bu h T_180 rfl rfl
 obtain⟨a,b,c,d,e,f,g,i,j,k,rfl⟩:∃a b c d e f g i j k,ws=[a,b,c,d,e,f,g,i,j,k]:=by
  match ws,hlen with
  | [a,b,c,d,e,f,g,i,j,k],_=>exact⟨a,b,c,d,e,f,g,i,j,k,rfl⟩
 obtain⟨kk,e0,p0⟩:=bq (hf 0 _ _ rfl T_5);obtain⟨fd,e1,p1⟩:=shq_dep (show ShB T Bd (n+3+2) 171 [b,c] from hf 1 _ _ rfl T_171);obtain⟨_,hc⟩:=bu (show ShB T Bd (n+4+1) 173 [d,e,f] from hf 2 _ _ rfl T_173) T_173 rfl rfl;obtain⟨cl,e2,p2⟩:=bq (hc 0 _ _ rfl T_5);obtain⟨cr,e3,p3⟩:=bq (hc 1 _ _ rfl T_5);obtain⟨cs,e4,p4,p4'⟩:=eO (show ShB T Bd (n+2+2) 55 [f] from hc 2 _ _ rfl T_55);obtain⟨_,ho⟩:=bu (show ShB T Bd (n+4+1) 175 [g,i] from hf 3 _ _ rfl T_175) T_175 rfl rfl;obtain⟨xs,e5,p5,p5'⟩:=eO (show ShB T Bd (n+2+2) 55 [g] from ho 0 _ _ rfl T_55);obtain⟨ys,e6,p6,p6'⟩:=eO (show ShB T Bd (n+2+2) 55 [i] from ho 1 _ _ rfl T_55);obtain⟨_,hd⟩:=bu (show ShB T Bd (n+4+1) 178 [j,k] from hf 4 _ _ rfl T_178) T_178 rfl rfl;obtain⟨nv,e7,p7⟩:=bq (hd 0 _ _ rfl T_5);obtain⟨sn,e8,p8,p8'⟩:=shq_snts (show ShB T Bd (n+4) 176 [k] from hd 1 _ _ rfl T_176);simp at e0 e1 e2 e3 e4 e5 e6 e7 e8;obtain⟨rfl,rfl⟩:=e1;subst e0 e2 e3 e4 e5 e6 e7 e8;exact⟨⟨kk,fd,cl,cr,cs,xs,ys,nv,sn⟩,rfl,⟨p0,p1,p2,p3,p4,p4',p5,p5',p6,p6',p7,kT p8 hB,p8'⟩⟩
theorem shq_rules{n Bd:Nat}(hB:Bd≤1048576){ws:List V}(h:ShB T Bd (n+7) 54 ws):∃l:List Rul,ws=[.lst 10 false (l.map aq)]∧l.length≤1048576∧∀r∈l,RulOk r:=by
 obtain⟨xs,rfl,_,hl,hx⟩:=fi h T_54 rfl T_180
 obtain⟨l,rfl,hs⟩:∃l:List Rul,xs=l.map aq∧∀r∈l,RulOk r:=cZ fun x hxm=>by
  obtain⟨ws,hs,_,rfl⟩:=hx x hxm;obtain⟨r,h1,h2⟩:=shq_rule hB hs;exact⟨r,by simpa[bK] using h1,h2⟩
 exact⟨l,rfl,by simp at hl;omega,hs⟩
structure CnSz (c:Cn):Prop where
 p:∀x∈c.cfd.p,x.x.s.size≤maxLen
 a:∀x∈c.dn.atoms,x.l.x.s.size≤maxLen∧x.r.x.s.size≤maxLen
 tab:c.table.size≤maxLen
 fd:c.fd.l<4294967296∧c.fd.r<4294967296
end
end Go.Proofs.YtpedcgdgjoblkaaGreatDoor
