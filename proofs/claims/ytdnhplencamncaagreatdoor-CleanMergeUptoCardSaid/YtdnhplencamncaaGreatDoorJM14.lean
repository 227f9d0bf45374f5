/- JM14: own texts of this seat, joined and shortened by pack4.py: Opq, Opr, OpL. -/
import Derived.Test.YtdnhplencamncaaGreatDoorJM11
import Derived.Test.YtdnhplencamncaaGreatDoorJM13
set_option linter.unusedVariables false
set_option linter.unusedSimpArgs false
set_option maxRecDepth 100000
set_option maxHeartbeats 64000000
namespace Go.Proofs.YtdnhplencamncaaGreatDoor
section
open Go Go.AM
theorem eR{α:Type}{enc:α→V}{p:α→Prop} : ∀{xs:List V},(∀x∈xs,∃a,x=enc a∧p a)→∃ys:List α,xs=ys.map enc∧∀y∈ys,p y
 | [],_=>⟨[],rfl,by simp⟩
 | x::xs,h=>by
  obtain⟨a,rfl,ha⟩:=h x (by simp);obtain⟨ys,rfl,hy⟩:=eR (xs:=xs) (fun y hy=>h y (by simp[hy]));exact⟨a::ys,rfl,fun y hm=>(List.mem_cons.1 hm).elim (fun e=>e▸ha) (hy y)⟩
theorem shq_u8{n Bd:Nat}{ws:List V}(h:ShB T Bd (n+1) 5 ws):∃m:Int,ws=[.int .u8 m]∧0≤m∧m<256:=by
 simp[ShB]at h;obtain⟨m,rfl,hm⟩:=h;refine⟨m,rfl,?_⟩;simp[Lit.wf,IntKind.min,IntKind.max,IntKind.signed,IntKind.bits]at hm;omega
theorem shq_i64{n Bd:Nat}{ws:List V}(h:ShB T Bd (n+1) 2 ws):∃m:Int,ws=[.int .i64 m]:=by
 simp[ShB]at h;obtain⟨m,rfl,hm⟩:=h;exact⟨m,rfl⟩
theorem shq_int{n Bd:Nat}{ws:List V}(h:ShB T Bd (n+1) 3 ws):∃m:Int,ws=[.int .i64 m]:=by
 simp[ShB]at h;obtain⟨m,rfl,hm⟩:=h;exact⟨m,rfl⟩
theorem shq_fld{n Bd t:Nat}{i:TI}{fs:Array Field}{sz:Nat}{ws:List V}(h:ShB T Bd (n+1) t ws)(hT:T t=some i)(hd:i.desc = .struct fs)(hs:i.size=sz):ws.length=sz∧∀(k:Nat) f j,fs[k]?=some f→T f.type=some j→ShB T Bd n f.type ((ws.drop f.offset).take j.size):=by
 rw[ShB]at h;simp only[hT,hd]at h;refine⟨by rw[←hs];exact h.1,fun k f j hk hj=>?_⟩;obtain⟨j',h1,h2⟩:=h.2 f (by rw[Array.mem_toList_iff];exact Array.mem_of_getElem? hk);rw[hj]at h1;cases h1;exact h2
theorem jV{n Bd t e:Nat}{i j:TI}{ws:List V}(h:ShB T Bd (n+1) t ws)(hT:T t=some i)(hd:i.desc = .slice e)(hj:T e=some j):∃xs,ws=[.lst j.size false xs]∧xs.length≤maxLen∧xs.length≤Bd∧∀x∈xs,∃ws,ShB T Bd n e ws∧ws.length=j.size∧x=(if bY j.desc then .agg ws else ws.headD .undef):=by
 rw[ShB]at h;simp only[hT,hd,hj]at h;exact h
theorem shq_lst{n Bd t e:Nat}{i j:TI}{ws:List V}(h:ShB T Bd (n+1) t ws)(hT:T t=some i)(hd:i.desc = .slice e)(hj:T e=some j):∃xs,ws=[.lst j.size false xs]∧xs.length≤maxLen∧∀x∈xs,∃ws,ShB T Bd n e ws∧ws.length=j.size∧x=(if bY j.desc then .agg ws else ws.headD .undef):=by
 obtain⟨xs,h1,h2,_,h3⟩:=jV h hT hd hj;exact⟨xs,h1,h2,h3⟩
theorem shq_u8s{n Bd:Nat}{ws:List V}(h:ShB T Bd (n+2) 99 ws):∃ns:List Int,ws=[LU ns]∧ns.length≤maxLen∧∀c∈ns,0≤c∧c<256:=by
 obtain⟨ys,rfl,hl2,hy⟩:=shq_lst h T_99 rfl T_5
 obtain⟨ns,rfl,hn⟩:∃ns:List Int,ys=ns.map encU∧∀c∈ns,0≤c∧c<256:=eR fun y hym=>by
  obtain⟨ws,hs,_,rfl⟩:=hy y hym;obtain⟨m,rfl,hm⟩:=shq_u8 hs;exact⟨m,by simp[bY,encU],hm⟩
 exact⟨ns,by simp[LU],by simpa using hl2,hn⟩
theorem shq_rows{n Bd:Nat}{ws:List V}(h:ShB T Bd (n+3) 22 ws):∃rs:List (List Int),ws=[.lst 1 false (rs.map LU)]∧rs.length≤maxLen∧∀r∈rs,r.length≤maxLen:=by
 obtain⟨xs,rfl,hl,hx⟩:=shq_lst h T_22 rfl T_99
 obtain⟨rs,rfl,hr⟩:∃rs:List (List Int),xs=rs.map LU∧∀r∈rs,r.length≤maxLen:=eR fun x hxm=>by
  obtain⟨ws,hs,_,rfl⟩:=hx x hxm;obtain⟨ns,rfl,h1,_⟩:=shq_u8s hs;exact⟨ns,by simp[bY],h1⟩
 exact⟨rs,rfl,by simpa using hl,hr⟩
theorem shq_recipe{n Bd:Nat}{ws:List V}(h:ShB T Bd (n+4) 24 ws):∃r:Rcp,ws=[.int .u8 r.a,.int .u8 r.gap,.lst 1 false (r.rows.map LU)]∧(0≤r.a∧r.a<256)∧0≤r.gap∧r.rows.length≤maxLen∧∀x∈r.rows,x.length≤maxLen:=by
 obtain⟨hlen,hf⟩:=shq_fld h T_24 rfl rfl
 obtain⟨a,b,c,rfl⟩:∃a b c,ws=[a,b,c]:=by
  match ws,hlen with
  | [a,b,c],_=>exact⟨a,b,c,rfl⟩
 obtain⟨m,e1,p1⟩:=shq_u8 (hf 0 _ _ rfl T_5);obtain⟨k,e2,q1,q2⟩:=shq_u8 (hf 1 _ _ rfl T_5);obtain⟨rs,e3,l1,l2⟩:=shq_rows (hf 2 _ _ rfl T_22);simp at e1 e2 e3;subst e1;subst e2;subst e3;exact⟨⟨m,k,rs⟩,rfl,p1,q1,l1,l2⟩
theorem rcp_agg{r:Rcp}{ws:List V}(h:ws=[.int .u8 r.a,.int .u8 r.gap,.lst 1 false (r.rows.map LU)]): .agg ws=ax false r:=by subst h;rfl
structure CnSz (c:Cn):Prop where
 p:∀x∈c.cfd.p,x.x.s.size≤maxLen
 a:∀x∈c.dn.atoms,x.l.x.s.size≤maxLen∧x.r.x.s.size≤maxLen
 tab:c.table.size≤maxLen
 fd:c.fd.l<4294967296∧c.fd.r<4294967296
theorem shq_sim{n Bd:Nat}{ws:List V}(h:ShB T Bd (n+2) 269 ws):∃s:Sim,.agg ws=bD s:=by
 obtain⟨hlen,hf⟩:=shq_fld h T_269 rfl rfl
 obtain⟨a,b,c,rfl⟩:∃a b c,ws=[a,b,c]:=by
  match ws,hlen with
  | [a,b,c],_=>exact⟨a,b,c,rfl⟩
 obtain⟨x,e1⟩:=shq_int (hf 0 _ _ rfl T_3);obtain⟨y,e2⟩:=shq_int (hf 1 _ _ rfl T_3);obtain⟨z,e3⟩:=shq_i64 (hf 2 _ _ rfl T_2);simp at e1 e2 e3;subst e1;subst e2;subst e3;exact⟨⟨x,y,z⟩,rfl⟩
theorem shq_intsB{n Bd:Nat}{ws:List V}(h:ShB T Bd (n+2) 26 ws):∃xs:List Int,ws=[L1 false xs]∧xs.length≤Bd:=by
 obtain⟨xs,rfl,_,hl,hx⟩:=jV h T_26 rfl T_3
 obtain⟨l,rfl,_⟩:∃l:List Int,xs=l.map aQ∧∀c∈l,True:=eR fun x hxm=>by
  obtain⟨ws,hs,_,rfl⟩:=hx x hxm;obtain⟨s,e1⟩:=shq_int hs;subst e1;exact⟨s,by simp[bY,aQ],trivial⟩
 exact⟨l,rfl,by simpa using hl⟩
theorem shq_sims{n Bd:Nat}{ws:List V}(h:ShB T Bd (n+3) 267 ws):∃l:List Sim,ws=[LSm false l]:=by
 obtain⟨xs,rfl,_,_,hx⟩:=jV h T_267 rfl T_269
 obtain⟨l,rfl,_⟩:∃l:List Sim,xs=l.map bD∧∀c∈l,True:=eR fun x hxm=>by
  obtain⟨ws,hs,_,rfl⟩:=hx x hxm;obtain⟨s,e1⟩:=shq_sim hs;exact⟨s,by simpa[bY] using e1,trivial⟩
 exact⟨l,rfl⟩
theorem shq_rules2{n Bd:Nat}{ws:List V}(h:ShB T Bd (n+4) 25 ws):∃l:List (List Sim),ws=[LQm false l]:=by
 obtain⟨xs,rfl,_,_,hx⟩:=jV h T_25 rfl T_267
 obtain⟨l,rfl,_⟩:∃l:List (List Sim),xs=l.map (LSm false)∧∀c∈l,True:=eR fun x hxm=>by
  obtain⟨ws,hs,_,rfl⟩:=hx x hxm;obtain⟨s,e1⟩:=shq_sims hs;subst e1;exact⟨s,by simp[bY],trivial⟩
 exact⟨l,rfl⟩
theorem shq_lnk{n Bd:Nat}{ws:List V}(h:ShB T Bd (n+5) 28 ws):∃L:Lnk,.agg ws=aV L∧L.block.length≤Bd:=by
 obtain⟨hlen,hf⟩:=shq_fld h T_28 rfl rfl
 obtain⟨a,b,c,rfl⟩:∃a b c,ws=[a,b,c]:=by
  match ws,hlen with
  | [a,b,c],_=>exact⟨a,b,c,rfl⟩
 obtain⟨x,e1⟩:=shq_rules2 (hf 0 _ _ rfl T_25);obtain⟨y,e2,hy⟩:=shq_intsB (n:=n+2) (hf 1 _ _ rfl T_26);obtain⟨z,e3,_⟩:=shq_intsB (n:=n+2) (hf 2 _ _ rfl T_26);simp at e1 e2 e3;subst e1;subst e2;subst e3;exact⟨⟨x,y,z⟩,rfl,hy⟩
end
end Go.Proofs.YtdnhplencamncaaGreatDoor
