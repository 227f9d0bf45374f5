/- JA14: own texts of this seat, joined and shortened by pack4.py: Opq, Opr. -/
import Derived.Test.YtpedcgdgjoblkaaGreatDoorJA12
import Derived.Test.YtpedcgdgjoblkaaGreatDoorJA13
set_option linter.unusedVariables false
set_option linter.unusedSimpArgs false
set_option maxRecDepth 100000
set_option maxHeartbeats 64000000
namespace Go.Proofs.YtpedcgdgjoblkaaGreatDoor
section
open Go Go.AM
theorem cK{α:Type}{enc:α→V}{p:α→Prop} : ∀{xs:List V},(∀x∈xs,∃a,x=enc a∧p a)→∃ys:List α,xs=ys.map enc∧∀y∈ys,p y
 | [],_=>⟨[],rfl,by simp⟩
 | x::xs,h=>by
  obtain⟨a,rfl,ha⟩:=h x (by simp);obtain⟨ys,rfl,hy⟩:=cK (xs:=xs) (fun y hy=>h y (by simp[hy]));exact⟨a::ys,rfl,fun y hm=>(List.mem_cons.1 hm).elim (fun e=>e▸ha) (hy y)⟩
theorem shq_u8{n Bd:Nat}{ws:List V}(h:ShB T Bd (n+1) 5 ws):∃m:Int,ws=[.int .u8 m]∧0≤m∧m<256:=by
 simp[ShB]at h;obtain⟨m,rfl,hm⟩:=h;refine⟨m,rfl,?_⟩;simp[Lit.wf,IntKind.min,IntKind.max,IntKind.signed,IntKind.bits]at hm;omega
theorem shq_i64{n Bd:Nat}{ws:List V}(h:ShB T Bd (n+1) 2 ws):∃m:Int,ws=[.int .i64 m]:=by
 simp[ShB]at h;obtain⟨m,rfl,hm⟩:=h;exact⟨m,rfl⟩
theorem shq_int{n Bd:Nat}{ws:List V}(h:ShB T Bd (n+1) 3 ws):∃m:Int,ws=[.int .i64 m]:=by
 simp[ShB]at h;obtain⟨m,rfl,hm⟩:=h;exact⟨m,rfl⟩
theorem ig{n Bd:Nat}{ws:List V}(h:ShB T Bd (n+1) 9 ws):∃s:ByteArray,ws=[.str s]∧s.size≤maxLen:=by
 simp[ShB]at h;exact h
theorem fD{n Bd t:Nat}{i:TI}{fs:Array Field}{sz:Nat}{ws:List V}(h:ShB T Bd (n+1) t ws)(hT:T t=some i)(hd:i.desc = .struct fs)(hs:i.size=sz):ws.length=sz∧∀(k:Nat) f j,fs[k]?=some f→T f.type=some j→ShB T Bd n f.type ((ws.drop f.offset).take j.size):=by
 rw[ShB]at h;simp only[hT,hd]at h;refine⟨by rw[←hs];exact h.1,fun k f j hk hj=>?_⟩;obtain⟨j',h1,h2⟩:=h.2 f (by rw[Array.mem_toList_iff];exact Array.mem_of_getElem? hk);rw[hj]at h1;cases h1;exact h2
theorem shq_lstB{n Bd t e:Nat}{i j:TI}{ws:List V}(h:ShB T Bd (n+1) t ws)(hT:T t=some i)(hd:i.desc = .slice e)(hj:T e=some j):∃xs,ws=[.lst j.size false xs]∧xs.length≤maxLen∧xs.length≤Bd∧∀x∈xs,∃ws,ShB T Bd n e ws∧ws.length=j.size∧x=(if bP j.desc then .agg ws else ws.headD .undef):=by
 rw[ShB]at h;simp only[hT,hd,hj]at h;exact h
theorem fC{n Bd t e:Nat}{i j:TI}{ws:List V}(h:ShB T Bd (n+1) t ws)(hT:T t=some i)(hd:i.desc = .slice e)(hj:T e=some j):∃xs,ws=[.lst j.size false xs]∧xs.length≤maxLen∧∀x∈xs,∃ws,ShB T Bd n e ws∧ws.length=j.size∧x=(if bP j.desc then .agg ws else ws.headD .undef):=by
 obtain⟨xs,h1,h2,_,h3⟩:=shq_lstB h hT hd hj;exact⟨xs,h1,h2,h3⟩
theorem shq_u8s{n Bd:Nat}{ws:List V}(h:ShB T Bd (n+2) 55 ws):∃ns:List Int,ws=[LU ns]∧ns.length≤maxLen∧∀c∈ns,0≤c∧c<256:=by
 obtain⟨ys,rfl,hl2,hy⟩:=fC h T_55 rfl T_5
 obtain⟨ns,rfl,hn⟩:∃ns:List Int,ys=ns.map encU∧∀c∈ns,0≤c∧c<256:=cK fun y hym=>by
  obtain⟨ws,hs,_,rfl⟩:=hy y hym;obtain⟨m,rfl,hm⟩:=shq_u8 hs;exact⟨m,by simp[bP,encU],hm⟩
 exact⟨ns,by simp[LU],by simpa using hl2,hn⟩
theorem shq_rows{n Bd:Nat}{ws:List V}(h:ShB T Bd (n+3) 22 ws):∃rs:List (List Int),ws=[.lst 1 false (rs.map LU)]∧rs.length≤maxLen∧∀r∈rs,r.length≤maxLen:=by
 obtain⟨xs,rfl,hl,hx⟩:=fC h T_22 rfl T_55
 obtain⟨rs,rfl,hr⟩:∃rs:List (List Int),xs=rs.map LU∧∀r∈rs,r.length≤maxLen:=cK fun x hxm=>by
  obtain⟨ws,hs,_,rfl⟩:=hx x hxm;obtain⟨ns,rfl,h1,_⟩:=shq_u8s hs;exact⟨ns,by simp[bP],h1⟩
 exact⟨rs,rfl,by simpa using hl,hr⟩
theorem shq_recipe{n Bd:Nat}{ws:List V}(h:ShB T Bd (n+4) 24 ws):∃r:Rcp,ws=[.int .u8 r.a,.int .u8 r.gap,.lst 1 false (r.rows.map LU)]∧(0≤r.a∧r.a<256)∧0≤r.gap∧r.rows.length≤maxLen∧∀x∈r.rows,x.length≤maxLen:=by
 obtain⟨hlen,hf⟩:=fD h T_24 rfl rfl
 obtain⟨a,b,c,rfl⟩:∃a b c,ws=[a,b,c]:=by
  match ws,hlen with
  | [a,b,c],_=>exact⟨a,b,c,rfl⟩
 obtain⟨m,e1,p1⟩:=shq_u8 (hf 0 _ _ rfl T_5);obtain⟨k,e2,q1,q2⟩:=shq_u8 (hf 1 _ _ rfl T_5);obtain⟨rs,e3,l1,l2⟩:=shq_rows (hf 2 _ _ rfl T_22);simp at e1 e2 e3;subst e1;subst e2;subst e3;exact⟨⟨m,k,rs⟩,rfl,p1,q1,l1,l2⟩
theorem rcp_agg{r:Rcp}{ws:List V}(h:ws=[.int .u8 r.a,.int .u8 r.gap,.lst 1 false (r.rows.map LU)]): .agg ws=au false r:=by subst h;rfl
theorem shq_val{n Bd:Nat}{ws:List V}(h:ShB T Bd (n+2) 43 ws):∃v:Vl,ws=[.int .i64 v.k,.int .i64 v.n,.str v.s]∧v.s.size≤maxLen:=by
 obtain⟨hlen,hf⟩:=fD h T_43 rfl rfl
 obtain⟨a,b,c,rfl⟩:∃a b c,ws=[a,b,c]:=by
  match ws,hlen with
  | [a,b,c],_=>exact⟨a,b,c,rfl⟩
 obtain⟨m,e1⟩:=shq_int (hf 0 _ _ rfl T_3);obtain⟨k,e2⟩:=shq_i64 (hf 1 _ _ rfl T_2);obtain⟨s,e3,h3⟩:=ig (hf 2 _ _ rfl T_9);simp at e1 e2 e3;subst e1;subst e2;subst e3;exact⟨⟨m,k,s⟩,rfl,h3⟩
theorem shq_vals{n Bd:Nat}{ws:List V}(h:ShB T Bd (n+3) 39 ws):∃vs:List Vl,ws=[LV false vs]∧vs.length≤maxLen∧∀v∈vs,v.s.size≤maxLen:=by
 obtain⟨xs,rfl,hl,hx⟩:=fC h T_39 rfl T_43
 obtain⟨l,rfl,hs⟩:∃l:List Vl,xs=l.map aJ∧∀v∈l,v.s.size≤maxLen:=cK fun x hxm=>by
  obtain⟨ws,hs,_,rfl⟩:=hx x hxm;obtain⟨v,rfl,h1⟩:=shq_val hs;exact⟨v,by simp[bP,aJ],h1⟩
 exact⟨l,rfl,by simpa using hl,hs⟩
theorem shq_trows{n Bd:Nat}{ws:List V}(h:ShB T Bd (n+5) 27 ws):∃rs:List Rw,ws=[LR false rs]∧rs.length≤maxLen∧∀r∈rs,r.vals.length≤maxLen∧∀v∈r.vals,v.s.size≤maxLen:=by
 obtain⟨xs,rfl,hl,hx⟩:=fC h T_27 rfl T_41
 obtain⟨l,rfl,hs⟩:∃l:List Rw,xs=l.map aC∧∀r∈l,r.vals.length≤maxLen∧∀v∈r.vals,v.s.size≤maxLen:=cK fun x hxm=>by
  obtain⟨ws,hs,_,rfl⟩:=hx x hxm;obtain⟨hlen,hf⟩:=fD hs T_41 rfl rfl
  obtain⟨a,b,rfl⟩:∃a b,ws=[a,b]:=by
   match ws,hlen with
   | [a,b],_=>exact⟨a,b,rfl⟩
  obtain⟨m,e1⟩:=shq_i64 (hf 0 _ _ rfl T_2);obtain⟨vs,e2,h2,h3⟩:=shq_vals (hf 1 _ _ rfl T_39);simp at e1 e2;subst e1;subst e2;exact⟨⟨m,vs⟩,by simp[bP,aC],h2,h3⟩
 exact⟨l,rfl,by simpa using hl,hs⟩
theorem shq_strs{n Bd:Nat}{ws:List V}(h:ShB T Bd (n+2) 26 ws):∃ss:List ByteArray,ws=[LS false ss]∧ss.length≤maxLen∧∀s∈ss,s.size≤maxLen:=by
 obtain⟨xs,rfl,hl,hx⟩:=fC h T_26 rfl T_9
 obtain⟨l,rfl,hs⟩:∃l:List ByteArray,xs=l.map V.str∧∀c∈l,c.size≤maxLen:=cK fun x hxm=>by
  obtain⟨ws,hs,_,rfl⟩:=hx x hxm;obtain⟨s,e1,h1⟩:=ig hs;subst e1;exact⟨s,by simp[bP],h1⟩
 exact⟨l,rfl,by simpa using hl,hs⟩
theorem shq_table{n Bd:Nat}{ws:List V}(h:ShB T Bd (n+6) 29 ws):∃t:Tb,.agg ws=aD false false t∧t.name.size≤maxLen∧(∀s∈t.attrs,s.size≤maxLen)∧∀r∈t.rows,r.vals.length≤maxLen∧∀v∈r.vals,v.s.size≤maxLen:=by
 obtain⟨hlen,hf⟩:=fD h T_29 rfl rfl
 obtain⟨a,b,c,rfl⟩:∃a b c,ws=[a,b,c]:=by
  match ws,hlen with
  | [a,b,c],_=>exact⟨a,b,c,rfl⟩
 obtain⟨s,e1,p1⟩:=ig (hf 0 _ _ rfl T_9);obtain⟨ss,e2,_,p2⟩:=shq_strs (hf 1 _ _ rfl T_26);obtain⟨rs,e3,_,p3⟩:=shq_trows (hf 2 _ _ rfl T_27);simp at e1 e2 e3;subst e1;subst e2;subst e3;exact⟨⟨s,ss,rs⟩,rfl,p1,p2,p3⟩
structure CnSz (c:Cn):Prop where
 p:∀x∈c.cfd.p,x.x.s.size≤maxLen
 a:∀x∈c.dn.atoms,x.l.x.s.size≤maxLen∧x.r.x.s.size≤maxLen
 tab:c.table.size≤maxLen
 fd:c.fd.l<4294967296∧c.fd.r<4294967296
end
end Go.Proofs.YtpedcgdgjoblkaaGreatDoor
