/- JP13: own texts of this seat, joined and shortened by pack4.py: Opt, Opc. -/
import Derived.Test.YtjceoiofkccfdaaGreatDoorJP10
import Derived.Test.YtjceoiofkccfdaaGreatDoorJP12
set_option linter.unusedVariables false
set_option linter.unusedSimpArgs false
set_option maxRecDepth 100000
set_option maxHeartbeats 64000000
namespace Go.Proofs.YtjceoiofkccfdaaGreatDoor
section
open Go Go.AM
theorem dR{α:Type}{enc:α→V}{p:α→Prop} : ∀{xs:List V},(∀x∈xs,∃a,x=enc a∧p a)→∃ys:List α,xs=ys.map enc∧∀y∈ys,p y
 | [],_=>⟨[],rfl,by simp⟩
 | x::xs,h=>by
  obtain⟨a,rfl,ha⟩:=h x (by simp);obtain⟨ys,rfl,hy⟩:=dR (xs:=xs) (fun y hy=>h y (by simp[hy]));exact⟨a::ys,rfl,fun y hm=>(List.mem_cons.1 hm).elim (fun e=>e▸ha) (hy y)⟩
theorem shq_i64{n Bd:Nat}{ws:List V}(h:ShB T Bd (n+1) 2 ws):∃m:Int,ws=[.int .i64 m]:=by
 simp[ShB]at h;obtain⟨m,rfl,hm⟩:=h;exact⟨m,rfl⟩
theorem shq_int{n Bd:Nat}{ws:List V}(h:ShB T Bd (n+1) 3 ws):∃m:Int,ws=[.int .i64 m]:=by
 simp[ShB]at h;obtain⟨m,rfl,hm⟩:=h;exact⟨m,rfl⟩
theorem shq_str{n Bd:Nat}{ws:List V}(h:ShB T Bd (n+1) 9 ws):∃s:ByteArray,ws=[.str s]∧s.size≤maxLen:=by
 simp[ShB]at h;exact h
theorem shq_fld{n Bd t:Nat}{i:TI}{fs:Array Field}{sz:Nat}{ws:List V}(h:ShB T Bd (n+1) t ws)(hT:T t=some i)(hd:i.desc = .struct fs)(hs:i.size=sz):ws.length=sz∧∀(k:Nat) f j,fs[k]?=some f→T f.type=some j→ShB T Bd n f.type ((ws.drop f.offset).take j.size):=by
 rw[ShB]at h;simp only[hT,hd]at h;refine⟨by rw[←hs];exact h.1,fun k f j hk hj=>?_⟩;obtain⟨j',h1,h2⟩:=h.2 f (by rw[Array.mem_toList_iff];exact Array.mem_of_getElem? hk);rw[hj]at h1;cases h1;exact h2
theorem shq_lstB{n Bd t e:Nat}{i j:TI}{ws:List V}(h:ShB T Bd (n+1) t ws)(hT:T t=some i)(hd:i.desc = .slice e)(hj:T e=some j):∃xs,ws=[.lst j.size false xs]∧xs.length≤maxLen∧xs.length≤Bd∧∀x∈xs,∃ws,ShB T Bd n e ws∧ws.length=j.size∧x=(if bI j.desc then .agg ws else ws.headD .undef):=by
 rw[ShB]at h;simp only[hT,hd,hj]at h;exact h
theorem shq_lst{n Bd t e:Nat}{i j:TI}{ws:List V}(h:ShB T Bd (n+1) t ws)(hT:T t=some i)(hd:i.desc = .slice e)(hj:T e=some j):∃xs,ws=[.lst j.size false xs]∧xs.length≤maxLen∧∀x∈xs,∃ws,ShB T Bd n e ws∧ws.length=j.size∧x=(if bI j.desc then .agg ws else ws.headD .undef):=by
 obtain⟨xs,h1,h2,_,h3⟩:=shq_lstB h hT hd hj;exact⟨xs,h1,h2,h3⟩
theorem shq_val{n Bd:Nat}{ws:List V}(h:ShB T Bd (n+2) 48 ws):∃v:Vl,ws=[.int .i64 v.k,.int .i64 v.n,.str v.s]∧v.s.size≤maxLen:=by
 obtain⟨hlen,hf⟩:=shq_fld h T_48 rfl rfl
 obtain⟨a,b,c,rfl⟩:∃a b c,ws=[a,b,c]:=by
  match ws,hlen with
  | [a,b,c],_=>exact⟨a,b,c,rfl⟩
 obtain⟨m,e1⟩:=shq_int (hf 0 _ _ rfl T_3);obtain⟨k,e2⟩:=shq_i64 (hf 1 _ _ rfl T_2);obtain⟨s,e3,h3⟩:=shq_str (hf 2 _ _ rfl T_9);simp at e1 e2 e3;subst e1;subst e2;subst e3;exact⟨⟨m,k,s⟩,rfl,h3⟩
theorem shq_vals{n Bd:Nat}{ws:List V}(h:ShB T Bd (n+3) 44 ws):∃vs:List Vl,ws=[LV false vs]∧vs.length≤maxLen∧∀v∈vs,v.s.size≤maxLen:=by
 obtain⟨xs,rfl,hl,hx⟩:=shq_lst h T_44 rfl T_48
 obtain⟨l,rfl,hs⟩:∃l:List Vl,xs=l.map aI∧∀v∈l,v.s.size≤maxLen:=dR fun x hxm=>by
  obtain⟨ws,hs,_,rfl⟩:=hx x hxm;obtain⟨v,rfl,h1⟩:=shq_val hs;exact⟨v,by simp[bI,aI],h1⟩
 exact⟨l,rfl,by simpa using hl,hs⟩
theorem shq_trows{n Bd:Nat}{ws:List V}(h:ShB T Bd (n+5) 23 ws):∃rs:List Rw,ws=[LR false rs]∧rs.length≤maxLen∧∀r∈rs,r.vals.length≤maxLen∧∀v∈r.vals,v.s.size≤maxLen:=by
 obtain⟨xs,rfl,hl,hx⟩:=shq_lst h T_23 rfl T_46
 obtain⟨l,rfl,hs⟩:∃l:List Rw,xs=l.map aE∧∀r∈l,r.vals.length≤maxLen∧∀v∈r.vals,v.s.size≤maxLen:=dR fun x hxm=>by
  obtain⟨ws,hs,_,rfl⟩:=hx x hxm;obtain⟨hlen,hf⟩:=shq_fld hs T_46 rfl rfl
  obtain⟨a,b,rfl⟩:∃a b,ws=[a,b]:=by
   match ws,hlen with
   | [a,b],_=>exact⟨a,b,rfl⟩
  obtain⟨m,e1⟩:=shq_i64 (hf 0 _ _ rfl T_2);obtain⟨vs,e2,h2,h3⟩:=shq_vals (hf 1 _ _ rfl T_44);simp at e1 e2;subst e1;subst e2;exact⟨⟨m,vs⟩,by simp[bI,aE],h2,h3⟩
 exact⟨l,rfl,by simpa using hl,hs⟩
theorem shq_strs{n Bd:Nat}{ws:List V}(h:ShB T Bd (n+2) 22 ws):∃ss:List ByteArray,ws=[LS false ss]∧ss.length≤maxLen∧∀s∈ss,s.size≤maxLen:=by
 obtain⟨xs,rfl,hl,hx⟩:=shq_lst h T_22 rfl T_9
 obtain⟨l,rfl,hs⟩:∃l:List ByteArray,xs=l.map V.str∧∀c∈l,c.size≤maxLen:=dR fun x hxm=>by
  obtain⟨ws,hs,_,rfl⟩:=hx x hxm;obtain⟨s,e1,h1⟩:=shq_str hs;subst e1;exact⟨s,by simp[bI],h1⟩
 exact⟨l,rfl,by simpa using hl,hs⟩
theorem shq_table{n Bd:Nat}{ws:List V}(h:ShB T Bd (n+6) 25 ws):∃t:Tb,.agg ws=aS false false t∧t.name.size≤maxLen∧(∀s∈t.attrs,s.size≤maxLen)∧∀r∈t.rows,r.vals.length≤maxLen∧∀v∈r.vals,v.s.size≤maxLen:=by
 obtain⟨hlen,hf⟩:=shq_fld h T_25 rfl rfl
 obtain⟨a,b,c,rfl⟩:∃a b c,ws=[a,b,c]:=by
  match ws,hlen with
  | [a,b,c],_=>exact⟨a,b,c,rfl⟩
 obtain⟨s,e1,p1⟩:=shq_str (hf 0 _ _ rfl T_9);obtain⟨ss,e2,_,p2⟩:=shq_strs (hf 1 _ _ rfl T_22);obtain⟨rs,e3,_,p3⟩:=shq_trows (hf 2 _ _ rfl T_23);simp at e1 e2 e3;subst e1;subst e2;subst e3;exact⟨⟨s,ss,rs⟩,rfl,p1,p2,p3⟩
end
end Go.Proofs.YtjceoiofkccfdaaGreatDoor
section

end
