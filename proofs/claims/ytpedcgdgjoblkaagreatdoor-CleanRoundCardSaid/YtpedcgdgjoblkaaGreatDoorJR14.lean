/- JR14: own texts of this seat, joined and shortened by pack4.py: Opq, Opr. -/
import Derived.Test.YtpedcgdgjoblkaaGreatDoorJR12
import Derived.Test.YtpedcgdgjoblkaaGreatDoorJR13
set_option linter.unusedVariables false
set_option linter.unusedSimpArgs false
set_option maxRecDepth 100000
set_option maxHeartbeats 64000000
namespace Go.Proofs.YtpedcgdgjoblkaaGreatDoor
section
open Go Go.AM
theorem iF{α:Type}{enc:α→V}{p:α→Prop} : ∀{xs:List V},(∀x∈xs,∃a,x=enc a∧p a)→∃ys:List α,xs=ys.map enc∧∀y∈ys,p y
 | [],_=>⟨[],rfl,by simp⟩
 | x::xs,h=>by
  obtain⟨a,rfl,ha⟩:=h x (by simp);obtain⟨ys,rfl,hy⟩:=iF (xs:=xs) (fun y hy=>h y (by simp[hy]));exact⟨a::ys,rfl,fun y hm=>(List.mem_cons.1 hm).elim (fun e=>e▸ha) (hy y)⟩
theorem shq_u8{n Bd:Nat}{ws:List V}(h:ShB T Bd (n+1) 5 ws):∃m:Int,ws=[.int .u8 m]∧0≤m∧m<256:=by
 simp[ShB]at h;obtain⟨m,rfl,hm⟩:=h;refine⟨m,rfl,?_⟩;simp[Lit.wf,IntKind.min,IntKind.max,IntKind.signed,IntKind.bits]at hm;omega
theorem shq_fld{n Bd t:Nat}{i:TI}{fs:Array Field}{sz:Nat}{ws:List V}(h:ShB T Bd (n+1) t ws)(hT:T t=some i)(hd:i.desc = .struct fs)(hs:i.size=sz):ws.length=sz∧∀(k:Nat) f j,fs[k]?=some f→T f.type=some j→ShB T Bd n f.type ((ws.drop f.offset).take j.size):=by
 rw[ShB]at h;simp only[hT,hd]at h;refine⟨by rw[←hs];exact h.1,fun k f j hk hj=>?_⟩;obtain⟨j',h1,h2⟩:=h.2 f (by rw[Array.mem_toList_iff];exact Array.mem_of_getElem? hk);rw[hj]at h1;cases h1;exact h2
theorem shq_lstB{n Bd t e:Nat}{i j:TI}{ws:List V}(h:ShB T Bd (n+1) t ws)(hT:T t=some i)(hd:i.desc = .slice e)(hj:T e=some j):∃xs,ws=[.lst j.size false xs]∧xs.length≤maxLen∧xs.length≤Bd∧∀x∈xs,∃ws,ShB T Bd n e ws∧ws.length=j.size∧x=(if br j.desc then .agg ws else ws.headD .undef):=by
 rw[ShB]at h;simp only[hT,hd,hj]at h;exact h
theorem shq_lst{n Bd t e:Nat}{i j:TI}{ws:List V}(h:ShB T Bd (n+1) t ws)(hT:T t=some i)(hd:i.desc = .slice e)(hj:T e=some j):∃xs,ws=[.lst j.size false xs]∧xs.length≤maxLen∧∀x∈xs,∃ws,ShB T Bd n e ws∧ws.length=j.size∧x=(if br j.desc then .agg ws else ws.headD .undef):=by
 obtain⟨xs,h1,h2,_,h3⟩:=shq_lstB h hT hd hj;exact⟨xs,h1,h2,h3⟩
theorem shq_u8s{n Bd:Nat}{ws:List V}(h:ShB T Bd (n+2) 55 ws):∃ns:List Int,ws=[LU ns]∧ns.length≤maxLen∧∀c∈ns,0≤c∧c<256:=by
 obtain⟨ys,rfl,hl2,hy⟩:=shq_lst h T_55 rfl T_5
 obtain⟨ns,rfl,hn⟩:∃ns:List Int,ys=ns.map encU∧∀c∈ns,0≤c∧c<256:=iF fun y hym=>by
  obtain⟨ws,hs,_,rfl⟩:=hy y hym;obtain⟨m,rfl,hm⟩:=shq_u8 hs;exact⟨m,by simp[br,encU],hm⟩
 exact⟨ns,by simp[LU],by simpa using hl2,hn⟩
theorem shq_rows{n Bd:Nat}{ws:List V}(h:ShB T Bd (n+3) 22 ws):∃rs:List (List Int),ws=[.lst 1 false (rs.map LU)]∧rs.length≤maxLen∧∀r∈rs,r.length≤maxLen:=by
 obtain⟨xs,rfl,hl,hx⟩:=shq_lst h T_22 rfl T_55
 obtain⟨rs,rfl,hr⟩:∃rs:List (List Int),xs=rs.map LU∧∀r∈rs,r.length≤maxLen:=iF fun x hxm=>by
  obtain⟨ws,hs,_,rfl⟩:=hx x hxm;obtain⟨ns,rfl,h1,_⟩:=shq_u8s hs;exact⟨ns,by simp[br],h1⟩
 exact⟨rs,rfl,by simpa using hl,hr⟩
theorem shq_recipe{n Bd:Nat}{ws:List V}(h:ShB T Bd (n+4) 24 ws):∃r:Rcp,ws=[.int .u8 r.a,.int .u8 r.gap,.lst 1 false (r.rows.map LU)]∧(0≤r.a∧r.a<256)∧0≤r.gap∧r.rows.length≤maxLen∧∀x∈r.rows,x.length≤maxLen:=by
 obtain⟨hlen,hf⟩:=shq_fld h T_24 rfl rfl
 obtain⟨a,b,c,rfl⟩:∃a b c,ws=[a,b,c]:=by
  match ws,hlen with
  | [a,b,c],_=>exact⟨a,b,c,rfl⟩
 obtain⟨m,e1,p1⟩:=shq_u8 (hf 0 _ _ rfl T_5);obtain⟨k,e2,q1,q2⟩:=shq_u8 (hf 1 _ _ rfl T_5);obtain⟨rs,e3,l1,l2⟩:=shq_rows (hf 2 _ _ rfl T_22);simp at e1 e2 e3;subst e1;subst e2;subst e3;exact⟨⟨m,k,rs⟩,rfl,p1,q1,l1,l2⟩
theorem rcp_agg{r:Rcp}{ws:List V}(h:ws=[.int .u8 r.a,.int .u8 r.gap,.lst 1 false (r.rows.map LU)]): .agg ws=ae false r:=by subst h;rfl
structure CnSz (c:Cn):Prop where
 p:∀x∈c.cfd.p,x.x.s.size≤maxLen
 a:∀x∈c.dn.atoms,x.l.x.s.size≤maxLen∧x.r.x.s.size≤maxLen
 tab:c.table.size≤maxLen
 fd:c.fd.l<4294967296∧c.fd.r<4294967296
end
end Go.Proofs.YtpedcgdgjoblkaaGreatDoor
