/- JX16: own texts of this seat, joined and shortened by pack4.py: Opq, Opr, G3, G4, OD, ClD. -/
import Derived.Test.YtjogkbekekdkjaaGreatDoorJX13
import Derived.Test.YtjogkbekekdkjaaGreatDoorJX15
import Derived.WalkSpells
import Derived.WalkLawsBesides
import Derived.Lib.Hide
import Derived.Maps.AppendAt
set_option linter.unusedVariables false
set_option linter.unusedSimpArgs false
set_option maxRecDepth 100000
set_option maxHeartbeats 64000000
open Bool renaming and_eq_true→rX,false_and→rZ,true_and→re
open Int renaming toNat_natCast→sT,eq_ofNat_of_zero_le→su,toNat_of_nonneg→uK
open List renaming replicate→rO,drop_eq_getElem_cons→rP,getElem_mem→rQ,drop_of_length_le→rR,drop_zero→rk,nil_append→rx,length_cons→sB,all_eq_true→sH,cons_append→sP,all_cons→sZ,any_cons→tK,all_nil→uL
open Nat renaming le_refl→rd,le_trans→sF
namespace Go.Proofs.YtjogkbekekdkjaaGreatDoor
section
open Go Go.AM
theorem bY{α:Type}{enc:α→V}{p:α→Prop} : ∀{xs:List V},(∀x∈xs,∃a,x=enc a∧p a)→∃ys:List α,xs=ys.map enc∧∀y∈ys,p y
 | [],_=>⟨[],rfl,by simp⟩
 | x::xs,h=>by
  obtain⟨a,rfl,ha⟩:=h x (by simp);obtain⟨ys,rfl,hy⟩:=bY (xs:=xs) (fun y hy=>h y (by simp[hy]));exact⟨a::ys,rfl,fun y hm=>(List.mem_cons.1 hm).elim (fun e=>e▸ha) (hy y)⟩
theorem eJ{n Bd:Nat}{ws:List V}(h:ShB T Bd (n+1) 5 ws):∃m:Int,ws=[.int .u8 m]∧0≤m∧m<256:=by
 simp[ShB]at h;obtain⟨m,rfl,hm⟩:=h;refine⟨m,rfl,?_⟩;simp[Lit.wf,IntKind.min,IntKind.max,IntKind.signed,IntKind.bits]at hm;omega
theorem oV{n Bd:Nat}{ws:List V}(h:ShB T Bd (n+1) 46 ws):∃m:Nat,ws=[.int .u32 (m:Int)]∧m<4294967296:=by
 simp[ShB]at h;obtain⟨m,rfl,hm⟩:=h;simp[Lit.wf,IntKind.min,IntKind.max,IntKind.signed,IntKind.bits]at hm;obtain⟨k,rfl⟩:=su (show 0≤m by omega);exact⟨k,rfl,by omega⟩
theorem oW{n Bd:Nat}{ws:List V}(h:ShB T Bd (n+1) 2 ws):∃m:Int,ws=[.int .i64 m]:=by
 simp[ShB]at h;obtain⟨m,rfl,hm⟩:=h;exact⟨m,rfl⟩
theorem ep{n Bd:Nat}{ws:List V}(h:ShB T Bd (n+1) 3 ws):∃m:Int,ws=[.int .i64 m]:=by
 simp[ShB]at h;obtain⟨m,rfl,hm⟩:=h;exact⟨m,rfl⟩
theorem shq_bool{n Bd:Nat}{ws:List V}(h:ShB T Bd (n+1) 4 ws):∃b:Bool,ws=[.bool b]:=by
 simp[ShB]at h
 rcases h with rfl | rfl
 ·exact⟨false,rfl⟩
 ·exact⟨true,rfl⟩
theorem iZ{n Bd:Nat}{ws:List V}(h:ShB T Bd (n+1) 9 ws):∃s:ByteArray,ws=[.str s]∧s.size≤maxLen:=by
 simp[ShB]at h;exact h
theorem bL{n Bd t:Nat}{i:TI}{fs:Array Field}{sz:Nat}{ws:List V}(h:ShB T Bd (n+1) t ws)(hT:T t=some i)(hd:i.desc = .struct fs)(hs:i.size=sz):ws.length=sz∧∀(k:Nat) f j,fs[k]?=some f→T f.type=some j→ShB T Bd n f.type ((ws.drop f.offset).take j.size):=by
 rw[ShB]at h;simp only[hT,hd]at h;refine⟨by rw[←hs];exact h.1,fun k f j hk hj=>?_⟩;obtain⟨j',h1,h2⟩:=h.2 f (by rw[Array.mem_toList_iff];exact Array.mem_of_getElem? hk);rw[hj]at h1;cases h1;exact h2
theorem pR{n Bd t e:Nat}{i j:TI}{ws:List V}(h:ShB T Bd (n+1) t ws)(hT:T t=some i)(hd:i.desc = .slice e)(hj:T e=some j):∃xs,ws=[.lst j.size false xs]∧xs.length≤maxLen∧xs.length≤Bd∧∀x∈xs,∃ws,ShB T Bd n e ws∧ws.length=j.size∧x=(if bX j.desc then .agg ws else ws.headD .undef):=by
 rw[ShB]at h;simp only[hT,hd,hj]at h;exact h
theorem du{n Bd t e:Nat}{i j:TI}{ws:List V}(h:ShB T Bd (n+1) t ws)(hT:T t=some i)(hd:i.desc = .slice e)(hj:T e=some j):∃xs,ws=[.lst j.size false xs]∧xs.length≤maxLen∧∀x∈xs,∃ws,ShB T Bd n e ws∧ws.length=j.size∧x=(if bX j.desc then .agg ws else ws.headD .undef):=by
 obtain⟨xs,h1,h2,_,h3⟩:=pR h hT hd hj;exact⟨xs,h1,h2,h3⟩
theorem lj{n Bd:Nat}{ws:List V}(h:ShB T Bd (n+2) 26 ws):∃ns:List Int,ws=[LU ns]∧ns.length≤maxLen∧∀c∈ns,0≤c∧c<256:=by
 obtain⟨ys,rfl,hl2,hy⟩:=du h T_26 rfl T_5
 obtain⟨ns,rfl,hn⟩:∃ns:List Int,ys=ns.map eH∧∀c∈ns,0≤c∧c<256:=bY fun y hym=>by
  obtain⟨ws,hs,_,rfl⟩:=hy y hym;obtain⟨m,rfl,hm⟩:=eJ hs;exact⟨m,by simp[bX,eH],hm⟩
 exact⟨ns,by simp[LU],by simpa using hl2,hn⟩
theorem shq_rows{n Bd:Nat}{ws:List V}(h:ShB T Bd (n+3) 22 ws):∃rs:List (List Int),ws=[.lst 1 false (rs.map LU)]∧rs.length≤maxLen∧∀r∈rs,r.length≤maxLen:=by
 obtain⟨xs,rfl,hl,hx⟩:=du h T_22 rfl T_26
 obtain⟨rs,rfl,hr⟩:∃rs:List (List Int),xs=rs.map LU∧∀r∈rs,r.length≤maxLen:=bY fun x hxm=>by
  obtain⟨ws,hs,_,rfl⟩:=hx x hxm;obtain⟨ns,rfl,h1,_⟩:=lj hs;exact⟨ns,by simp[bX],h1⟩
 exact⟨rs,rfl,by simpa using hl,hr⟩
theorem shq_recipe{n Bd:Nat}{ws:List V}(h:ShB T Bd (n+4) 24 ws):∃r:Rcp,ws=[.int .u8 r.a,.int .u8 r.gap,.lst 1 false (r.rows.map LU)]∧(0≤r.a∧r.a<256)∧0≤r.gap∧r.rows.length≤maxLen∧∀x∈r.rows,x.length≤maxLen:=by
 obtain⟨hlen,hf⟩:=bL h T_24 rfl rfl
 obtain⟨a,b,c,rfl⟩:∃a b c,ws=[a,b,c]:=by
  match ws,hlen with
  | [a,b,c],_=>exact⟨a,b,c,rfl⟩
 obtain⟨m,e1,p1⟩:=eJ (hf 0 _ _ rfl T_5);obtain⟨k,e2,q1,q2⟩:=eJ (hf 1 _ _ rfl T_5);obtain⟨rs,e3,l1,l2⟩:=shq_rows (hf 2 _ _ rfl T_22);simp at e1 e2 e3;subst e1;subst e2;subst e3;exact⟨⟨m,k,rs⟩,rfl,p1,q1,l1,l2⟩
theorem shq_dep{n Bd:Nat}{ws:List V}(h:ShB T Bd (n+2) 91 ws):∃d:Fd,ws=[.int .u8 (d.l:Int),.int .u8 (d.r:Int)]∧d.l<256∧d.r<256:=by
 obtain⟨hlen,hf⟩:=bL h T_91 rfl rfl
 obtain⟨a,b,rfl⟩:∃a b,ws=[a,b]:=by
  match ws,hlen with
  | [a,b],_=>exact⟨a,b,rfl⟩
 obtain⟨m,e1,p1,p2⟩:=eJ (hf 0 _ _ rfl T_5);obtain⟨k,e2,q1,q2⟩:=eJ (hf 1 _ _ rfl T_5);simp at e1 e2;subst e1;subst e2;refine⟨⟨m.toNat,k.toNat⟩,?_,by simp only;omega,by simp only;omega⟩;simp[uK p1,uK q1]
theorem shq_side{n Bd:Nat}{ws:List V}(h:ShB T Bd (n+2) 206 ws):∃v c:Int,ws=[.int .u8 v,.int .u8 c]∧(0≤v∧v<256)∧(0≤c∧c<256):=by
 obtain⟨hlen,hf⟩:=bL h T_206 rfl rfl
 obtain⟨a,b,rfl⟩:∃a b,ws=[a,b]:=by
  match ws,hlen with
  | [a,b],_=>exact⟨a,b,rfl⟩
 obtain⟨m,e1,p1⟩:=eJ (hf 0 _ _ rfl T_5);obtain⟨k,e2,q1⟩:=eJ (hf 1 _ _ rfl T_5);simp at e1 e2;subst e1;subst e2;exact⟨m,k,rfl,p1,q1⟩
theorem shq_snt{n Bd:Nat}{ws:List V}(h:ShB T Bd (n+3) 208 ws):∃s:Snt,ws=[.int .u8 s.lv,.int .u8 s.lc,.int .u8 s.op,.int .u8 s.rv,.int .u8 s.rc]∧SntOk s:=by
 obtain⟨hlen,hf⟩:=bL h T_208 rfl rfl
 obtain⟨a,b,c,d,e,rfl⟩:∃a b c d e,ws=[a,b,c,d,e]:=by
  match ws,hlen with
  | [a,b,c,d,e],_=>exact⟨a,b,c,d,e,rfl⟩
 obtain⟨v,x,e1,p1,p2⟩:=shq_side (show ShB T Bd (n+2) 206 [a,b] from hf 0 _ _ rfl T_206);obtain⟨o,e2,q1⟩:=eJ (hf 1 _ _ rfl T_5);obtain⟨w,y,e3,r1,r2⟩:=shq_side (show ShB T Bd (n+2) 206 [d,e] from hf 2 _ _ rfl T_206);simp at e1 e2 e3;obtain⟨rfl,rfl⟩:=e1;obtain⟨rfl,rfl⟩:=e3;subst e2;exact⟨⟨v,x,o,w,y⟩,rfl,⟨p1,p2,q1,r1,r2⟩⟩
theorem shq_snts{n Bd:Nat}{ws:List V}(h:ShB T Bd (n+4) 96 ws):∃l:List Snt,ws=[.lst 5 false (l.map gn)]∧l.length≤Bd∧∀s∈l,SntOk s:=by
 obtain⟨xs,rfl,_,hl,hx⟩:=pR h T_96 rfl T_208
 obtain⟨l,rfl,hs⟩:∃l:List Snt,xs=l.map gn∧∀s∈l,SntOk s:=bY fun x hxm=>by
  obtain⟨ws,hs,_,rfl⟩:=hx x hxm;obtain⟨s,rfl,h1⟩:=shq_snt hs;exact⟨s,by simp[bX,gn],h1⟩
 exact⟨l,rfl,by simpa using hl,hs⟩
theorem shq_rule{n Bd:Nat}(hB:Bd≤1048576){ws:List V}(h:ShB T Bd (n+6) 100 ws):∃r:Rul,.agg ws=bd r∧RulOk r:=by
 obtain⟨hlen,hf⟩:=bL h T_100 rfl rfl
 obtain⟨a,b,c,d,e,f,g,i,j,k,rfl⟩:∃a b c d e f g i j k,ws=[a,b,c,d,e,f,g,i,j,k]:=by
  match ws,hlen with
  | [a,b,c,d,e,f,g,i,j,k],_=>exact⟨a,b,c,d,e,f,g,i,j,k,rfl⟩
 obtain⟨kk,e0,p0⟩:=eJ (hf 0 _ _ rfl T_5);obtain⟨fd,e1,p1⟩:=shq_dep (show ShB T Bd (n+3+2) 91 [b,c] from hf 1 _ _ rfl T_91);obtain⟨_,hc⟩:=bL (show ShB T Bd (n+4+1) 93 [d,e,f] from hf 2 _ _ rfl T_93) T_93 rfl rfl;obtain⟨cl,e2,p2⟩:=eJ (hc 0 _ _ rfl T_5);obtain⟨cr,e3,p3⟩:=eJ (hc 1 _ _ rfl T_5);obtain⟨cs,e4,p4,p4'⟩:=lj (show ShB T Bd (n+2+2) 26 [f] from hc 2 _ _ rfl T_26);obtain⟨_,ho⟩:=bL (show ShB T Bd (n+4+1) 95 [g,i] from hf 3 _ _ rfl T_95) T_95 rfl rfl;obtain⟨xs,e5,p5,p5'⟩:=lj (show ShB T Bd (n+2+2) 26 [g] from ho 0 _ _ rfl T_26);obtain⟨ys,e6,p6,p6'⟩:=lj (show ShB T Bd (n+2+2) 26 [i] from ho 1 _ _ rfl T_26);obtain⟨_,hd⟩:=bL (show ShB T Bd (n+4+1) 98 [j,k] from hf 4 _ _ rfl T_98) T_98 rfl rfl;obtain⟨nv,e7,p7⟩:=eJ (hd 0 _ _ rfl T_5);obtain⟨sn,e8,p8,p8'⟩:=shq_snts (show ShB T Bd (n+4) 96 [k] from hd 1 _ _ rfl T_96);simp at e0 e1 e2 e3 e4 e5 e6 e7 e8;obtain⟨rfl,rfl⟩:=e1;subst e0 e2 e3 e4 e5 e6 e7 e8;exact⟨⟨kk,fd,cl,cr,cs,xs,ys,nv,sn⟩,rfl,⟨p0,p1,p2,p3,p4,p4',p5,p5',p6,p6',p7,sF p8 hB,p8'⟩⟩
theorem shq_rules{n Bd:Nat}(hB:Bd≤1048576){ws:List V}(h:ShB T Bd (n+7) 25 ws):∃l:List Rul,ws=[.lst 10 false (l.map bd)]∧l.length≤1048576∧∀r∈l,RulOk r:=by
 obtain⟨xs,rfl,_,hl,hx⟩:=pR h T_25 rfl T_100
 obtain⟨l,rfl,hs⟩:∃l:List Rul,xs=l.map bd∧∀r∈l,RulOk r:=bY fun x hxm=>by
  obtain⟨ws,hs,_,rfl⟩:=hx x hxm;obtain⟨r,h1,h2⟩:=shq_rule hB hs;exact⟨r,by simpa[bX] using h1,h2⟩
 exact⟨l,rfl,by simp at hl;omega,hs⟩
theorem shq_val{n Bd:Nat}{ws:List V}(h:ShB T Bd (n+2) 200 ws):∃v:Vl,ws=[.int .i64 v.k,.int .i64 v.n,.str v.s]∧v.s.size≤maxLen:=by
 obtain⟨hlen,hf⟩:=bL h T_200 rfl rfl
 obtain⟨a,b,c,rfl⟩:∃a b c,ws=[a,b,c]:=by
  match ws,hlen with
  | [a,b,c],_=>exact⟨a,b,c,rfl⟩
 obtain⟨m,e1⟩:=ep (hf 0 _ _ rfl T_3);obtain⟨k,e2⟩:=oW (hf 1 _ _ rfl T_2);obtain⟨s,e3,h3⟩:=iZ (hf 2 _ _ rfl T_9);simp at e1 e2 e3;subst e1;subst e2;subst e3;exact⟨⟨m,k,s⟩,rfl,h3⟩
theorem shq_vals{n Bd:Nat}{ws:List V}(h:ShB T Bd (n+3) 78 ws):∃vs:List Vl,ws=[LV false vs]∧vs.length≤maxLen∧∀v∈vs,v.s.size≤maxLen:=by
 obtain⟨xs,rfl,hl,hx⟩:=du h T_78 rfl T_200
 obtain⟨l,rfl,hs⟩:∃l:List Vl,xs=l.map aX∧∀v∈l,v.s.size≤maxLen:=bY fun x hxm=>by
  obtain⟨ws,hs,_,rfl⟩:=hx x hxm;obtain⟨v,rfl,h1⟩:=shq_val hs;exact⟨v,by simp[bX,aX],h1⟩
 exact⟨l,rfl,by simpa using hl,hs⟩
theorem shq_trows{n Bd:Nat}{ws:List V}(h:ShB T Bd (n+5) 30 ws):∃rs:List Rw,ws=[LR false rs]∧rs.length≤maxLen∧∀r∈rs,r.vals.length≤maxLen∧∀v∈r.vals,v.s.size≤maxLen:=by
 obtain⟨xs,rfl,hl,hx⟩:=du h T_30 rfl T_80
 obtain⟨l,rfl,hs⟩:∃l:List Rw,xs=l.map aI∧∀r∈l,r.vals.length≤maxLen∧∀v∈r.vals,v.s.size≤maxLen:=bY fun x hxm=>by
  obtain⟨ws,hs,_,rfl⟩:=hx x hxm;obtain⟨hlen,hf⟩:=bL hs T_80 rfl rfl
  obtain⟨a,b,rfl⟩:∃a b,ws=[a,b]:=by
   match ws,hlen with
   | [a,b],_=>exact⟨a,b,rfl⟩
  obtain⟨m,e1⟩:=oW (hf 0 _ _ rfl T_2);obtain⟨vs,e2,h2,h3⟩:=shq_vals (hf 1 _ _ rfl T_78);simp at e1 e2;subst e1;subst e2;exact⟨⟨m,vs⟩,by simp[bX,aI],h2,h3⟩
 exact⟨l,rfl,by simpa using hl,hs⟩
theorem shq_strs{n Bd:Nat}{ws:List V}(h:ShB T Bd (n+2) 29 ws):∃ss:List ByteArray,ws=[LS false ss]∧ss.length≤maxLen∧∀s∈ss,s.size≤maxLen:=by
 obtain⟨xs,rfl,hl,hx⟩:=du h T_29 rfl T_9
 obtain⟨l,rfl,hs⟩:∃l:List ByteArray,xs=l.map V.str∧∀c∈l,c.size≤maxLen:=bY fun x hxm=>by
  obtain⟨ws,hs,_,rfl⟩:=hx x hxm;obtain⟨s,e1,h1⟩:=iZ hs;subst e1;exact⟨s,by simp[bX],h1⟩
 exact⟨l,rfl,by simpa using hl,hs⟩
theorem shq_table{n Bd:Nat}{ws:List V}(h:ShB T Bd (n+6) 32 ws):∃t:Tb,.agg ws=aD false false t∧t.name.size≤maxLen∧(∀s∈t.attrs,s.size≤maxLen)∧∀r∈t.rows,r.vals.length≤maxLen∧∀v∈r.vals,v.s.size≤maxLen:=by
 obtain⟨hlen,hf⟩:=bL h T_32 rfl rfl
 obtain⟨a,b,c,rfl⟩:∃a b c,ws=[a,b,c]:=by
  match ws,hlen with
  | [a,b,c],_=>exact⟨a,b,c,rfl⟩
 obtain⟨s,e1,p1⟩:=iZ (hf 0 _ _ rfl T_9);obtain⟨ss,e2,_,p2⟩:=shq_strs (hf 1 _ _ rfl T_29);obtain⟨rs,e3,_,p3⟩:=shq_trows (hf 2 _ _ rfl T_30);simp at e1 e2 e3;subst e1;subst e2;subst e3;exact⟨⟨s,ss,rs⟩,rfl,p1,p2,p3⟩
theorem jV{n Bd:Nat}{ws:List V}(h:ShB T Bd (n+2) 50 ws):∃xs:List Int,ws=[L1 false xs]∧xs.length≤maxLen:=by
 obtain⟨xs,rfl,hl,hx⟩:=du h T_50 rfl T_3
 obtain⟨l,rfl,_⟩:∃l:List Int,xs=l.map aE∧∀c∈l,True:=bY fun x hxm=>by
  obtain⟨ws,hs,_,rfl⟩:=hx x hxm;obtain⟨s,e1⟩:=ep hs;subst e1;exact⟨s,by simp[bX,aE],trivial⟩
 exact⟨l,rfl,by simpa using hl⟩
theorem shq_tm{n Bd:Nat}{ws:List V}(h:ShB T Bd (n+3) 210 ws):∃t:Tm,ws=[.int .i64 t.v,.int .i64 t.a,.int .i64 t.x.k,.int .i64 t.x.n,.str t.x.s]∧t.x.s.size≤maxLen:=by
 obtain⟨hlen,hf⟩:=bL h T_210 rfl rfl
 obtain⟨a,b,c,d,e,rfl⟩:∃a b c d e,ws=[a,b,c,d,e]:=by
  match ws,hlen with
  | [a,b,c,d,e],_=>exact⟨a,b,c,d,e,rfl⟩
 obtain⟨m,e1⟩:=ep (hf 0 _ _ rfl T_3);obtain⟨k,e2⟩:=ep (hf 1 _ _ rfl T_3);obtain⟨v,e3,h3⟩:=shq_val (show ShB T Bd (n+2) 200 [c,d,e] from hf 2 _ _ rfl T_200);simp at e1 e2 e3;obtain⟨rfl,rfl,rfl⟩:=e3;subst e1 e2;exact⟨⟨m,k,v⟩,rfl,h3⟩
theorem shq_atoms{n Bd:Nat}{ws:List V}(h:ShB T Bd (n+5) 58 ws):∃l:List At,ws=[LA false l]∧l.length≤maxLen∧∀a∈l,a.l.x.s.size≤maxLen∧a.r.x.s.size≤maxLen:=by
 obtain⟨xs,rfl,hl,hx⟩:=du h T_58 rfl T_213
 obtain⟨l,rfl,hs⟩:∃l:List At,xs=l.map ar∧∀a∈l,a.l.x.s.size≤maxLen∧a.r.x.s.size≤maxLen:=bY fun x hxm=>by
  obtain⟨ws,hs,hlen,rfl⟩:=hx x hxm;obtain⟨_,hf⟩:=bL hs T_213 rfl rfl
  obtain⟨a,b,c,d,e,o,a2,b2,c2,d2,e2,rfl⟩:∃a b c d e o a2 b2 c2 d2 e2,ws=[a,b,c,d,e,o,a2,b2,c2,d2,e2]:=by
   match ws,hlen with
   | [a,b,c,d,e,o,a2,b2,c2,d2,e2],_=>exact⟨a,b,c,d,e,o,a2,b2,c2,d2,e2,rfl⟩
  obtain⟨t1,q1,h1⟩:=shq_tm (show ShB T Bd (n+3) 210 [a,b,c,d,e] from hf 0 _ _ rfl T_210);obtain⟨op,q2⟩:=ep (hf 1 _ _ rfl T_3);obtain⟨t2,q3,h3⟩:=shq_tm (show ShB T Bd (n+3) 210 [a2,b2,c2,d2,e2] from hf 2 _ _ rfl T_210);simp at q1 q2 q3;obtain⟨rfl,rfl,rfl,rfl,rfl⟩:=q1;obtain⟨rfl,rfl,rfl,rfl,rfl⟩:=q3;subst q2;exact⟨⟨t1,op,t2⟩,by simp[bX,ar],h1,h3⟩
 exact⟨l,rfl,by simpa using hl,hs⟩
theorem shq_cls{n Bd:Nat}{ws:List V}(h:ShB T Bd (n+4) 53 ws):∃l:List Cl,ws=[LCl false l]∧l.length≤maxLen∧∀c∈l,c.x.s.size≤maxLen:=by
 obtain⟨xs,rfl,hl,hx⟩:=du h T_53 rfl T_202
 obtain⟨l,rfl,hs⟩:∃l:List Cl,xs=l.map ao∧∀c∈l,c.x.s.size≤maxLen:=bY fun x hxm=>by
  obtain⟨ws,hs,hlen,rfl⟩:=hx x hxm;obtain⟨_,hf⟩:=bL hs T_202 rfl rfl
  obtain⟨a,b,c,d,rfl⟩:∃a b c d,ws=[a,b,c,d]:=by
   match ws,hlen with
   | [a,b,c,d],_=>exact⟨a,b,c,d,rfl⟩
  obtain⟨y,q1⟩:=shq_bool (hf 0 _ _ rfl T_4);obtain⟨v,q2,h2⟩:=shq_val (show ShB T Bd (n+2) 200 [b,c,d] from hf 1 _ _ rfl T_200);simp at q1 q2;obtain⟨rfl,rfl,rfl⟩:=q2;subst q1;exact⟨⟨y,v⟩,by simp[bX,ao],h2⟩
 exact⟨l,rfl,by simpa using hl,hs⟩
structure CnSz (c:Cn):Prop where
 p:∀x∈c.cfd.p,x.x.s.size≤maxLen
 a:∀x∈c.dn.atoms,x.l.x.s.size≤maxLen∧x.r.x.s.size≤maxLen
 tab:c.table.size≤maxLen
 fd:c.fd.l<4294967296∧c.fd.r<4294967296
theorem shq_cn{n Bd:Nat}{ws:List V}(h:ShB T Bd (n+7) 62 ws):∃c:Cn,.agg ws=af c∧CnSz c:=by
 obtain⟨hlen,hf⟩:=bL h T_62 rfl rfl
 obtain⟨x0,x1,x2,x3,x4,x5,x6,x7,x8,x9,x10,x11,x12,x13,x14,x15,x16,x17,rfl⟩:∃x0 x1 x2 x3 x4 x5 x6 x7 x8 x9 x10 x11 x12 x13 x14 x15 x16 x17,ws=[x0,x1,x2,x3,x4,x5,x6,x7,x8,x9,x10,x11,x12,x13,x14,x15,x16,x17]:=by
  match ws,hlen with
  | [x0,x1,x2,x3,x4,x5,x6,x7,x8,x9,x10,x11,x12,x13,x14,x15,x16,x17],_=>exact⟨x0,x1,x2,x3,x4,x5,x6,x7,x8,x9,x10,x11,x12,x13,x14,x15,x16,x17,rfl⟩
 obtain⟨nm,e0,_⟩:=iZ (hf 0 _ _ rfl T_9);obtain⟨tb,e1,g1⟩:=iZ (hf 1 _ _ rfl T_9);obtain⟨kd,e2⟩:=ep (hf 2 _ _ rfl T_3);obtain⟨_,f3⟩:=bL (show ShB T Bd (n+5+1) 48 [x3,x4] from hf 3 _ _ rfl T_48) T_48 rfl rfl;obtain⟨fl,e3,g3⟩:=oV (f3 0 _ _ rfl T_46);obtain⟨fr,e4,g4⟩:=oV (f3 1 _ _ rfl T_46);obtain⟨_,f5⟩:=bL (show ShB T Bd (n+5+1) 49 [x5,x6] from hf 4 _ _ rfl T_49) T_49 rfl rfl;obtain⟨m1,e5,_⟩:=oV (f5 0 _ _ rfl T_46);obtain⟨m2,e6,_⟩:=oV (f5 1 _ _ rfl T_46);obtain⟨_,f7⟩:=bL (show ShB T Bd (n+5+1) 52 [x7,x8,x9,x10] from hf 5 _ _ rfl T_52) T_52 rfl rfl;obtain⟨i1,e7,_⟩:=iZ (f7 0 _ _ rfl T_9);obtain⟨i2,e8,_⟩:=jV (show ShB T Bd (n+3+2) 50 [x8] from f7 1 _ _ rfl T_50);obtain⟨i3,e9,_⟩:=iZ (f7 2 _ _ rfl T_9);obtain⟨i4,e10,_⟩:=jV (show ShB T Bd (n+3+2) 50 [x10] from f7 3 _ _ rfl T_50);obtain⟨_,f11⟩:=bL (show ShB T Bd (n+5+1) 55 [x11,x12,x13] from hf 6 _ _ rfl T_55) T_55 rfl rfl;obtain⟨cl,e11,_⟩:=jV (show ShB T Bd (n+3+2) 50 [x11] from f11 0 _ _ rfl T_50);obtain⟨cr,e12⟩:=ep (f11 1 _ _ rfl T_3);obtain⟨cp,e13,_,g13⟩:=shq_cls (show ShB T Bd (n+1+4) 53 [x13] from f11 2 _ _ rfl T_53);obtain⟨_,f14⟩:=bL (show ShB T Bd (n+5+1) 57 [x14,x15] from hf 7 _ _ rfl T_57) T_57 rfl rfl;obtain⟨ol,e14,_⟩:=jV (show ShB T Bd (n+3+2) 50 [x14] from f14 0 _ _ rfl T_50);obtain⟨or,e15,_⟩:=jV (show ShB T Bd (n+3+2) 50 [x15] from f14 1 _ _ rfl T_50);obtain⟨_,f16⟩:=bL (show ShB T Bd (n+5+1) 60 [x16,x17] from hf 8 _ _ rfl T_60) T_60 rfl rfl;obtain⟨dv,e16⟩:=ep (f16 0 _ _ rfl T_3);obtain⟨da,e17,_,g17⟩:=shq_atoms (show ShB T Bd (n+5) 58 [x17] from f16 1 _ _ rfl T_58);simp at e0 e1 e2 e3 e4 e5 e6 e7 e8 e9 e10 e11 e12 e13 e14 e15 e16 e17;subst e0 e1 e2 e3 e4 e5 e6 e7 e8 e9 e10 e11 e12 e13 e14 e15 e16 e17;exact⟨⟨nm,tb,kd,⟨fl,fr⟩,(m1:Int),(m2:Int),i1,i2,i3,i4,⟨cl,cr,cp⟩,⟨ol,or⟩,⟨dv,da⟩⟩,rfl,⟨g13,g17,g1,g3,g4⟩⟩
theorem shq_cns{n Bd:Nat}{ws:List V}(h:ShB T Bd (n+8) 33 ws):∃l:List Cn,ws=[LCn false l]∧l.length≤maxLen∧∀c∈l,CnSz c:=by
 obtain⟨xs,rfl,hl,hx⟩:=du h T_33 rfl T_62
 obtain⟨l,rfl,hs⟩:∃l:List Cn,xs=l.map af∧∀c∈l,CnSz c:=bY fun x hxm=>by
  obtain⟨ws,hs,_,rfl⟩:=hx x hxm;obtain⟨r,h1,h2⟩:=shq_cn hs;exact⟨r,by simpa[bX] using h1,h2⟩
 exact⟨l,rfl,by simpa using hl,hs⟩
theorem term18(n vars:Int)(t:Tm):aL Tryz.prog 279 [.int .i64 n,.int .i64 vars,bP t] fun r=>r = .bool (tmB n vars t):=by
 have cv:=valid01 t.x;simp only[aX]at cv;unfold tmB kp;by_cases h0:t.v=0
 ·rw[if_pos h0];by_cases h1:t.a=0
  ·rw[decide_eq_true h1,re];refine sPx Tryz.func279 rfl rfl ?_;simp -dsimp[Tryz.f279,rO,bP,h0,h1];refine cPx (cv) (by simp) ?_;simp -dsimp[]
  ·rw[decide_eq_false h1,rZ];refine sPx Tryz.func279 rfl rfl ?_;simp -dsimp[Tryz.f279,rO,bP,h0,h1]
 ·rw[if_neg h0];by_cases h1:1≤t.v
  ·rw[decide_eq_true h1,re];by_cases h2:t.v≤vars
   ·rw[decide_eq_true h2,re];by_cases h3:0≤t.a
    ·rw[decide_eq_true h3,re];by_cases h4:t.a<n
     ·rw[decide_eq_true h4,re];refine sPx Tryz.func279 rfl rfl ?_;simp -dsimp[Tryz.f279,rO,bP,h0,h1,h2,h3,h4,oM]
     ·rw[decide_eq_false h4,rZ];refine sPx Tryz.func279 rfl rfl ?_;simp -dsimp[Tryz.f279,rO,bP,h0,h1,h2,h3,h4]
    ·rw[decide_eq_false h3,rZ];refine sPx Tryz.func279 rfl rfl ?_;simp -dsimp[Tryz.f279,rO,bP,h0,h1,h2,h3]
   ·rw[decide_eq_false h2,rZ];refine sPx Tryz.func279 rfl rfl ?_;simp -dsimp[Tryz.f279,rO,bP,h0,h1,h2]
  ·rw[decide_eq_false h1,rZ];refine sPx Tryz.func279 rfl rfl ?_;simp -dsimp[Tryz.f279,rO,bP,h0,h1]
theorem termValid(n vars:Int)(t:Tm):aL Tryz.prog 182 [.int .i64 n,.int .i64 vars,bP t] fun r=>r = .bool (tmB n vars t):=by
 have cv:=kx t.x;simp only[aX]at cv;unfold tmB kp;by_cases h0:t.v=0
 ·rw[if_pos h0];by_cases h1:t.a=0
  ·rw[decide_eq_true h1,re];refine sPx Tryz.func182 rfl rfl ?_;simp -dsimp[Tryz.f182,rO,bP,h0,h1];refine cPx (cv) (by simp) ?_;simp -dsimp[]
  ·rw[decide_eq_false h1,rZ];refine sPx Tryz.func182 rfl rfl ?_;simp -dsimp[Tryz.f182,rO,bP,h0,h1]
 ·rw[if_neg h0];by_cases h1:1≤t.v
  ·rw[decide_eq_true h1,re]
   have h1':0<t.v:=by omega
   by_cases h2:t.v≤vars
   ·rw[decide_eq_true h2,re];by_cases h3:0≤t.a
    ·rw[decide_eq_true h3,re];by_cases h4:t.a<n
     ·rw[decide_eq_true h4,re];refine sPx Tryz.func182 rfl rfl ?_;simp -dsimp[Tryz.f182,rO,bP,h0,h1',h2,h3,h4,oM]
     ·rw[decide_eq_false h4,rZ];refine sPx Tryz.func182 rfl rfl ?_;simp -dsimp[Tryz.f182,rO,bP,h0,h1',h2,h3,h4]
    ·rw[decide_eq_false h3,rZ];refine sPx Tryz.func182 rfl rfl ?_;simp -dsimp[Tryz.f182,rO,bP,h0,h1',h2,h3]
   ·rw[decide_eq_false h2,rZ];refine sPx Tryz.func182 rfl rfl ?_;simp -dsimp[Tryz.f182,rO,bP,h0,h1',h2]
  ·rw[decide_eq_false h1,rZ];refine sPx Tryz.func182 rfl rfl ?_;simp -dsimp[Tryz.f182,rO,bP,h0,show ¬0<t.v by omega]
theorem eh{P:Program}{f:FuncId}{args:List V}{H Hf:List B}{v:V}(h:av P f args H fun r H'=>r=v∧∃G,H'=Hf++G)(hr:rb Hf.length v)(hb:H.length≤Hf.length∧∀bl∈Hf,rbB Hf.length bl):av P f args H fun r H'=>r=v∧H'=Hf:=by
 refine(ke (σ:=Unit) (ok:=fun _=>True) (rf:=fun _=>v) (Hf:=fun _=>Hf) (h.mono fun r H' ⟨a,G,b⟩=>⟨(),trivial,a,G,b⟩) (fun _ _=>hb.1) (fun _ _=>hr) (fun _ _=>hb.2)).mono ?_;rintro r H' ⟨_,_,a,b⟩;exact⟨a,b⟩
theorem valid18(n:Int)(d:Dn)(f:Bool)(hl:d.atoms.length≤1000000):aL Tryz.prog 261 [.int .i64 n,aq f d] fun r=>r = .bool (dnB n d):=by
 unfold dnB;by_cases h1:1≤d.vars
 ·rw[decide_eq_true h1,re];by_cases h2:d.vars≤3
  ·rw[decide_eq_true h2,re];by_cases h3:d.atoms.length≤20
   ·rw[decide_eq_true h3,re];obtain⟨E,hE⟩:∃E,E=d.atoms.all (atB n d.vars):=⟨_,rfl⟩;rw[←hE];refine sPx Tryz.func261 rfl rfl ?_;simp -dsimp[Tryz.f261,rO,aq,LA,show ¬d.vars<1 by omega,show ¬3<d.vars by omega,show ¬(20:Int)<d.atoms.length by omega];refine aG (W_loopM 59 0x7ffffffffe00070 (by simp[mB]<;>rfl) (σ:=Nat) (fun i=>(d.atoms.drop i).all (atB n d.vars)=E) (fun i=>d.atoms.length-i) (fun i=>[(5,.int .i64 i)]) (fun _=>[B.cells [.int .i64 d.vars,.lst 11 f (d.atoms.map ar)]]) 0 (by rw[hE,rk]) (by simp) (by simp) (by simp) ?_);intro i hx N Q hN hQ;by_cases hb:i<d.atoms.length
    ·rw[rP hb,sZ]at hx;obtain⟨a,ha⟩:∃a,a=d.atoms[i]:=⟨_,rfl⟩;rw[←ha]at hx;have c1:=term18 n d.vars a.l;have c2:=term18 n d.vars a.r;simp only[bP]at c1 c2;by_cases o1:a.op<1
     ·rw[show atB n d.vars a=false by unfold atB;rw[decide_eq_false (by omega)];rfl,rZ]at hx;refine wx ?_;simp -dsimp[hb,ha.symm,ar,o1];refine hQ _ _ _ ?_;simp -dsimp[];rw[←hx]<;>simp
     ·by_cases o2:4<a.op
      ·rw[show atB n d.vars a=false by unfold atB;rw[decide_eq_true (by omega),decide_eq_false (by omega)];rfl,rZ]at hx;refine wx ?_;simp -dsimp[hb,ha.symm,ar,o1,o2];refine hQ _ _ _ ?_;simp -dsimp[];rw[←hx]<;>simp
      ·have hat:atB n d.vars a=(tmB n d.vars a.l&&tmB n d.vars a.r):=by unfold atB;rw[decide_eq_true (by omega),decide_eq_true (by omega)];rfl
       rw[hat]at hx
       cases q1:tmB n d.vars a.l with
       | false =>
        rw[q1]at c1 hx;refine wx ?_;simp -dsimp[hb,ha.symm,ar,o1,o2];refine cPx (c1) (by simp) ?_;simp -dsimp[];refine hQ _ _ _ ?_;simp -dsimp[];rw[←hx]<;>simp
       | true =>
        rw[q1]at c1 hx
        cases q2:tmB n d.vars a.r with
        | false =>
         rw[q2]at c2 hx;refine wx ?_;simp -dsimp[hb,ha.symm,ar,o1,o2];refine cPx (c1) (by simp) ?_;simp -dsimp[];refine cPx (c2) (by simp) ?_;simp -dsimp[];refine hQ _ _ _ ?_;simp -dsimp[];rw[←hx]<;>simp
        | true =>
         rw[q2]at c2 hx;refine wx ?_;simp -dsimp[hb,ha.symm,ar,o1,o2];refine cPx (c1) (by simp) ?_;simp -dsimp[];refine cPx (c2) (by simp) ?_;simp -dsimp[aH i (by omega)];refine hN (i+1) _ _ hx (by omega) (by simp) ⟨_,rfl⟩ (by simp) (by simp)
    ·rw[rR (by omega)]at hx;refine wx ?_;simp -dsimp[hb];refine hQ _ _ _ ?_;simp -dsimp[];simpa using hx
   ·rw[decide_eq_false h3,rZ];refine sPx Tryz.func261 rfl rfl ?_;simp -dsimp[Tryz.f261,rO,aq,LA,show ¬d.vars<1 by omega,show ¬3<d.vars by omega,show(20:Int)<d.atoms.length by omega]
  ·rw[decide_eq_false h2,rZ];refine sPx Tryz.func261 rfl rfl ?_;simp -dsimp[Tryz.f261,rO,aq,LA,show ¬d.vars<1 by omega,show 3<d.vars by omega]
 ·rw[decide_eq_false h1,rZ];refine sPx Tryz.func261 rfl rfl ?_;simp -dsimp[Tryz.f261,rO,aq,LA,show d.vars<1 by omega]
theorem atom_no(n:Int)(d:Dn)(f:Bool)(a:At):∀H:List B,H=[B.cells [.int .i64 n],B.cells [.int .i64 d.vars,LA f d.atoms]]→aQ Tryz.prog (.fn 181 [.ptr 0 0,.ptr 1 0]) [ar a] H fun r H'=>r = .bool (!atB n d.vars a)∧H'=H:=by
 intro H hH;have c1:=termValid n d.vars a.l;have c2:=termValid n d.vars a.r;simp only[bP]at c1 c2;simp only[aQ,sP,rx];refine eh ?_ (by simp[rb,rb1]) (by subst hH;simp[LA]);subst hH;simp only[LA];by_cases o1:a.op<1
 ·rw[show atB n d.vars a=false by unfold atB;rw[decide_eq_false (by omega)];rfl];refine aF tok Tryz.func181 rfl rfl ?_;refine wx ?_;simp -dsimp[Tryz.f181,rO,ar,LA,o1]
 by_cases o2:4<a.op
 ·rw[show atB n d.vars a=false by unfold atB;rw[decide_eq_true (by omega),decide_eq_false (by omega)];rfl];refine aF tok Tryz.func181 rfl rfl ?_;refine wx ?_;simp -dsimp[Tryz.f181,rO,ar,LA,o1,o2]
 have hat:atB n d.vars a=(tmB n d.vars a.l&&tmB n d.vars a.r):=by unfold atB;rw[decide_eq_true (by omega),decide_eq_true (by omega)];rfl
 rw[hat]
 cases q1:tmB n d.vars a.l with
 | false =>
  rw[q1]at c1;refine aF tok Tryz.func181 rfl rfl ?_;refine wx ?_;simp -dsimp[Tryz.f181,rO,ar,LA,o1,o2];refine cPx (c1) (by simp) ?_;simp -dsimp[]
 | true =>
  rw[q1]at c1;refine aF tok Tryz.func181 rfl rfl ?_;refine wx ?_;simp -dsimp[Tryz.f181,rO,ar,LA,o1,o2];refine cPx (c1) (by simp) ?_;simp -dsimp[];refine cPx (c2) (by simp) ?_;simp -dsimp[]
theorem mw{α:Type}(p:α→Bool)(l:List α):(!l.any fun a=>!p a)=l.all p:=by
 induction l with
 | nil=>rfl
 | cons a l ih=>rw[tK,sZ,←ih];cases p a<;>simp
theorem validD_u(n:Int)(d:Dn)(f:Bool)(hl:d.atoms.length≤1000000):aL Tryz.prog 127 [.int .i64 n,aq f d] fun r=>r = .bool (dnB n d):=by
 unfold dnB;by_cases h1:1≤d.vars
 case neg =>
  rw[decide_eq_false h1,rZ];refine sPx Tryz.func127 rfl rfl ?_;simp -dsimp[Tryz.f127,rO,aq,LA,show d.vars<1 by omega]
 rw[decide_eq_true h1,re];by_cases h2:d.vars≤3
 case neg =>
  rw[decide_eq_false h2,rZ];refine sPx Tryz.func127 rfl rfl ?_;simp -dsimp[Tryz.f127,rO,aq,LA,show ¬d.vars<1 by omega,show 3<d.vars by omega]
 rw[decide_eq_true h2,re];by_cases h3:d.atoms.length≤20
 case neg =>
  rw[decide_eq_false h3,rZ];refine sPx Tryz.func127 rfl rfl ?_;simp -dsimp[Tryz.f127,rO,aq,LA,show ¬d.vars<1 by omega,show ¬3<d.vars by omega,show(20:Int)<d.atoms.length by omega]
 rw[decide_eq_true h3,re,←mw];have hc:=cont_A [B.cells [.int .i64 n],B.cells [.int .i64 d.vars,LA f d.atoms]] (.fn 181 [.ptr 0 0,.ptr 1 0]) (fun a=>!atB n d.vars a) d.atoms f hl (by simp[LA]) (by simp) (fun m _=>atom_no n d f m _ rfl);simp only[LA]at hc;refine sPx Tryz.func127 rfl rfl ?_;simp -dsimp[Tryz.f127,rO,aq,LA,show ¬d.vars<1 by omega,show ¬3<d.vars by omega,show ¬(20:Int)<d.atoms.length by omega];refine aQ.mono (K:=fun r H'=>r = .bool (d.atoms.any fun a=>!atB n d.vars a)∧H'=[B.cells [.int .i64 n],B.cells [.int .i64 d.vars,.lst 11 f (d.atoms.map ar)]]) hc ?_;rintro r H' ⟨rfl,rfl⟩;simp -dsimp[]
def TmOk(rs:List Rw)(t:Tm):Prop:=t.v=0∨∃(k a:Nat) (hk:k<rs.length),t.v=(k:Int)+1∧t.a=(a:Int)∧a<rs[k].vals.length
theorem tmV_at{rs:List Rw}{t:Tm}{k a:Nat}(hk:k<rs.length)(h1:t.v=(k:Int)+1)(h2:t.a=(a:Int))(h3:a<rs[k].vals.length):tmV rs t=rs[k].vals[a]:=by
 unfold tmV;rw[if_neg (by omega),h1,h2]
 have e1:((k:Int)+1-1).toNat=k:=by omega
 have e2:((a:Int)).toNat=a:=by omega
 rw[e1,e2];simp[hk,h3]
theorem wrapM(k:Nat)(h:k<9223372036854775806):IntKind.i64.wrap ((k:Int)+1-1)=(k:Int):=by rw[wrap64 (by omega) (by omega)];omega
theorem of18(t:Tm)(rs:List Rw)(f:Bool)(h:TmOk rs t)(hl:rs.length≤1000000):aL Tryz.prog 280 [bP t,LR f rs] fun r=>r=aX (tmV rs t):=by
 rcases h with h | ⟨k,a,hk,h1,h2,h3⟩
 ·have ht:tmV rs t=t.x:=by simp[tmV,h]
  rw[ht];refine sPx Tryz.func280 rfl rfl ?_;simp -dsimp[Tryz.f280,rO,bP,h,aX]
 ·have ht:=tmV_at hk h1 h2 h3;obtain⟨r,hr⟩:∃r,r=rs[k]:=⟨_,rfl⟩;simp only[←hr]at ht h3;obtain⟨v,hv⟩:∃v,v=r.vals[a]:=⟨_,rfl⟩;rw[ht,←hv];refine sPx Tryz.func280 rfl rfl ?_;simp -dsimp[Tryz.f280,rO,bP,LR,LV,aI,aX,h1,h2,show ¬(k:Int)+1=0 by omega,hk,hr.symm,h3,hv.symm,wrapM k (by omega),ai k (by omega)];refine aG (aW tok mixed [11] [] [] (by kernel_rfl) fun C K hC hK=>?_);simp -implicitDefEqProofs [bP,LR,LV,aI,aX,h1,h2,hk,hr.symm,h3,hv.symm,wrapM k (by omega),ai k (by omega)];refine hK _ _ ?_;simp -dsimp[];rfl
theorem get_u(t:Tm)(rs:List Rw)(f:Bool)(h:TmOk rs t)(hl:rs.length≤1000000):aL Tryz.prog 271 [LR f rs,bP t] fun r=>r=aX (tmV rs t):=by
 rcases h with h | ⟨k,a,hk,h1,h2,h3⟩
 ·have ht:tmV rs t=t.x:=by simp[tmV,h]
  rw[ht];refine sPx Tryz.func271 rfl rfl ?_;simp -dsimp[Tryz.f271,rO,bP,h,aX]
 ·have ht:=tmV_at hk h1 h2 h3;obtain⟨r,hr⟩:∃r,r=rs[k]:=⟨_,rfl⟩;simp only[←hr]at ht h3;obtain⟨v,hv⟩:∃v,v=r.vals[a]:=⟨_,rfl⟩;rw[ht,←hv];refine sPx Tryz.func271 rfl rfl ?_;simp -dsimp[Tryz.f271,rO,bP,LR,LV,aI,aX,h1,h2,show ¬(k:Int)+1=0 by omega,hk,hr.symm,h3,hv.symm,wrapM k (by omega),ai k (by omega)];refine aG (aW tok mixed [11] [] [] (by kernel_rfl) fun C K hC hK=>?_);simp -implicitDefEqProofs [bP,LR,LV,aI,aX,h1,h2,hk,hr.symm,h3,hv.symm,wrapM k (by omega),ai k (by omega)];refine hK _ _ ?_;simp -dsimp[];rfl
structure AtOk (rs:List Rw) (a:At):Prop where
 l:TmOk rs a.l
 r:TmOk rs a.r
 lo:1≤a.op
 hi:a.op≤4
 sz:(tmV rs a.l).s.size≤maxLen
theorem sat18(a:At)(rs:List Rw)(f:Bool)(h:AtOk rs a)(hl:rs.length≤1000000):aL Tryz.prog 262 [ar a,LR f rs] fun r=>r = .bool (atS rs a):=by
 have c1:=of18 a.l rs f h.l hl;have c2:=of18 a.r rs f h.r hl;have c3:=fW (tmV rs a.l) (tmV rs a.r) h.sz;simp only[bP,aX]at c1 c2 c3;have h1:=h.lo;have h2:=h.hi;obtain⟨q,hq⟩:∃q,q=eX (tmV rs a.l) (tmV rs a.r):=⟨_,rfl⟩;unfold atS;rw[←hq]at c3 ⊢;by_cases e1:a.op=1
 ·rw[if_pos e1];refine sPx Tryz.func262 rfl rfl ?_;simp -dsimp[Tryz.f262,rO,ar,e1];refine .inr ⟨aC (by kernel_rfl),?_⟩;refine aN _ (aK (c1) (by simp)) ?_;simp -dsimp[];refine aN _ (aK (c2) (by simp)) ?_;simp -dsimp[];refine aN _ (aK (c3) (by simp)) ?_;simp -dsimp[]
  try rfl
 rw[if_neg e1];by_cases e2:a.op=2
 ·rw[if_pos e2];refine sPx Tryz.func262 rfl rfl ?_;simp -dsimp[Tryz.f262,rO,ar,e2];refine .inr ⟨aC (by kernel_rfl),?_⟩;refine aN _ (aK (c1) (by simp)) ?_;simp -dsimp[];refine aN _ (aK (c2) (by simp)) ?_;simp -dsimp[];refine aN _ (aK (c3) (by simp)) ?_;simp -dsimp[]
  try rfl
 rw[if_neg e2];by_cases e3:a.op=3
 ·rw[if_pos e3];refine sPx Tryz.func262 rfl rfl ?_;simp -dsimp[Tryz.f262,rO,ar,e3];refine .inr ⟨aC (by kernel_rfl),?_⟩;refine aN _ (aK (c1) (by simp)) ?_;simp -dsimp[];refine aN _ (aK (c2) (by simp)) ?_;simp -dsimp[];refine aN _ (aK (c3) (by simp)) ?_;simp -dsimp[]
 rw[if_neg e3];refine sPx Tryz.func262 rfl rfl ?_;simp -dsimp[Tryz.f262,rO,ar,e1,e2,e3];refine .inr ⟨aC (by kernel_rfl),?_⟩;refine aN _ (aK (c1) (by simp)) ?_;simp -dsimp[e1,e2,e3];refine aN _ (aK (c2) (by simp)) ?_;simp -dsimp[e1,e2,e3];refine aN _ (aK (c3) (by simp)) ?_;simp -dsimp[e1,e2,e3]
theorem all18(d:Dn)(rs:List Rw)(f g:Bool)(h:∀a∈d.atoms,AtOk rs a)(hl:rs.length≤1000000)(ha:d.atoms.length≤1000000):aL Tryz.prog 211 [aq f d,LR g rs] fun r=>r = .bool (my d rs):=by
 obtain⟨E,hE⟩:∃E,E=my d rs:=⟨_,rfl⟩;rw[←hE];unfold my at hE;refine sPx Tryz.func211 rfl rfl ?_;simp -dsimp[Tryz.f211,rO,aq,LA,LR];refine aG (W_loopM 21 0x1ffff0 (by simp[mB]<;>rfl) (σ:=Nat) (fun i=>(d.atoms.drop i).all (atS rs)=E) (fun i=>d.atoms.length-i) (fun i=>[(5,.int .i64 i)]) (fun _=>[B.cells [.int .i64 d.vars,.lst 11 f (d.atoms.map ar)]]) 0 (by rw[hE,rk]) (by simp) (by simp) (by simp) ?_);intro i hx N Q hN hQ;by_cases hb:i<d.atoms.length
 ·rw[rP hb,sZ]at hx;have hk:=h _ (rQ hb);obtain⟨a,hae⟩:∃a,a=d.atoms[i]:=⟨_,rfl⟩;rw[←hae]at hx hk;have c1:=sat18 a rs g hk hl;simp only[ar,LR]at c1
  cases q:atS rs a with
  | false =>
   rw[q]at c1 hx;refine wx ?_;simp -dsimp[hb,hae.symm,ar];refine cPx (c1) (by simp) ?_;simp -dsimp[];refine hQ _ _ _ ?_;simp -dsimp[];simpa using hx
  | true =>
   rw[q]at c1 hx;refine wx ?_;simp -dsimp[hb,hae.symm,ar];refine cPx (c1) (by simp) ?_;simp -dsimp[aH i (by omega)];refine hN (i+1) _ _ (by simpa using hx) (by omega) (by simp) ⟨_,rfl⟩ (by simp) (by simp)
 ·rw[rR (by omega)]at hx;refine wx ?_;simp -dsimp[hb];refine hQ _ _ _ ?_;simp -dsimp[];simpa using hx
theorem inB_no1{n a:Int}(h:¬0≤a):inB n a=false:=by simp[inB,h]
theorem inB_no2{n a:Int}(h:¬a<n):inB n a=false:=by simp[inB,h]
theorem inB_yes{n a:Int}(h:0≤a)(h2:a<n):inB n a=true:=by simp[inB,h,h2]
theorem list17(n:Int)(l:List Int)(f:Bool)(hl:l.length≤1000000):aL Tryz.prog 278 [.int .i64 n,L1 f l] fun r=>r = .bool (olB n l):=by
 obtain⟨E,hE⟩:∃E,E=l.all (inB n):=⟨_,rfl⟩;unfold olB;rw[←hE];refine sPx Tryz.func278 rfl rfl ?_;simp -dsimp[Tryz.f278,rO,L1];refine aG (W_loopM 25 0x1fffff0 (by simp[mB]<;>rfl) (σ:=Nat) (fun i=>(l.drop i).all (inB n)=E) (fun i=>l.length-i) (fun i=>[(5,.int .i64 i)]) (fun _=>[]) 0 (by rw[hE,rk]) (by simp) (by simp) (by simp) ?_);intro i hx N Q hN hQ;by_cases hb:i<l.length
 ·rw[rP hb,sZ]at hx;obtain⟨a,ha⟩:∃a,a=l[i]:=⟨_,rfl⟩;rw[←ha]at hx;by_cases h1:0≤a
  ·by_cases h2:a<n
   ·rw[inB_yes h1 h2]at hx;refine wx ?_;simp -dsimp[hb,ha.symm,aE,show ¬a<0 by omega,show ¬n≤a by omega,aH i (by omega)];refine hN (i+1) _ _ (by simpa using hx) (by omega) (by simp) ⟨_,rfl⟩ (by simp[aE]) (by simp)
   ·rw[inB_no2 h2,rZ]at hx;refine wx ?_;simp -dsimp[hb,ha.symm,aE,show ¬a<0 by omega,show n≤a by omega];refine hQ _ _ _ ?_;simp -dsimp[];rw[←hx];simp
  ·rw[inB_no1 h1,rZ]at hx;refine wx ?_;simp -dsimp[hb,ha.symm,aE,show a<0 by omega];refine hQ _ _ _ ?_;simp -dsimp[];rw[←hx];simp
 ·rw[rR (by omega),uL]at hx;subst hx;by_cases h8:l.length≤8
  ·refine wx ?_;simp -dsimp[hb];refine hQ _ _ _ ?_;simp -dsimp[show(l.length:Int)≤8 by omega];simp[h8]
  ·refine wx ?_;simp -dsimp[hb];refine hQ _ _ _ ?_;simp -dsimp[show ¬(l.length:Int)≤8 by omega];omega
theorem valid17(n:Int)(d:Od)(f g:Bool)(hl:d.l.length≤1000000)(hr:d.r.length≤1000000):aL Tryz.prog 259 [.int .i64 n,bM f g d] fun r=>r = .bool (odB n d):=by
 have c1:=list17 n d.l f hl;have c2:=list17 n d.r g hr;unfold odB;simp only[L1]at c1 c2
 cases h:olB n d.l with
 | false =>
  rw[h]at c1;refine sPx Tryz.func259 rfl rfl ?_;simp -dsimp[Tryz.f259,rO,bM,L1];refine cPx (c1) (by simp) ?_;simp -dsimp[]
 | true =>
  rw[h]at c1;refine sPx Tryz.func259 rfl rfl ?_;simp -dsimp[Tryz.f259,rO,bM,L1];refine cPx (c1) (by simp) ?_;simp -dsimp[];refine cPx (c2) (by simp) ?_;simp -dsimp[]
theorem list1_u(n:Int)(a:Int):∀H:List B,H=[B.cells [.int .i64 n]]→aQ Tryz.prog (.fn 239 [.ptr 0 0]) [.int .i64 a] H fun r H'=>r = .bool (!inB n a)∧H'=H:=by
 intro H hH;subst hH;simp only[aQ,sP,rx];by_cases h1:0≤a
 ·by_cases h2:a<n
  ·rw[inB_yes h1 h2];refine aF tok Tryz.func239 rfl rfl ?_;refine wx ?_;simp -dsimp[Tryz.f239,rO,show ¬a<0 by omega,show ¬n≤a by omega]
  ·rw[inB_no2 h2];refine aF tok Tryz.func239 rfl rfl ?_;refine wx ?_;simp -dsimp[Tryz.f239,rO,show ¬a<0 by omega,show n≤a by omega]
 ·rw[inB_no1 h1];refine aF tok Tryz.func239 rfl rfl ?_;refine wx ?_;simp -dsimp[Tryz.f239,rO,show a<0 by omega]
theorem list_u(n:Int)(l:List Int)(f:Bool)(hl:l.length≤1000000):aL Tryz.prog 185 [.int .i64 n,L1 f l] fun r=>r = .bool (olB n l):=by
 unfold olB;rw[←mw];by_cases h8:l.length≤8
 ·have hc:=cont_I [B.cells [.int .i64 n]] (.fn 239 [.ptr 0 0]) (fun a=>!inB n a) l f hl (by simp) (by simp) (fun m _=>list1_u n m _ rfl);simp only[L1]at hc;rw[decide_eq_true h8,re];refine sPx Tryz.func185 rfl rfl ?_;simp -dsimp[Tryz.f185,rO,L1,show(l.length:Int)≤8 by omega];refine aQ.mono (K:=fun r H'=>r = .bool (l.any fun a=>!inB n a)∧H'=[B.cells [.int .i64 n]]) hc ?_;rintro r H' ⟨rfl,rfl⟩;simp -dsimp[]
 ·rw[decide_eq_false h8,rZ];refine sPx Tryz.func185 rfl rfl ?_;simp -dsimp[Tryz.f185,rO,L1,show ¬(l.length:Int)≤8 by omega]
theorem validO_u(n:Int)(d:Od)(f g:Bool)(hl:d.l.length≤1000000)(hr:d.r.length≤1000000):aL Tryz.prog 129 [.int .i64 n,bM f g d] fun r=>r = .bool (odB n d):=by
 have c1:=list_u n d.l f hl;have c2:=list_u n d.r g hr;unfold odB;simp only[L1]at c1 c2
 cases h:olB n d.l with
 | false =>
  rw[h]at c1;refine sPx Tryz.func129 rfl rfl ?_;simp -dsimp[Tryz.f129,rO,bM,L1];refine cPx (c1) (by simp) ?_;simp -dsimp[]
 | true =>
  rw[h]at c1;refine sPx Tryz.func129 rfl rfl ?_;simp -dsimp[Tryz.f129,rO,bM,L1];refine cPx (c1) (by simp) ?_;simp -dsimp[];refine cPx (c2) (by simp) ?_;simp -dsimp[]
def gd(n:Nat)(l:List Int):Prop:=∀a∈l,0≤a∧a<n
theorem ol_ats{n:Nat}{l:List Int}(h:olB n l=true):gd n l:=fun a ha=>by
 unfold olB at h;rw[rX,sH]at h;have:=h.2 a ha;simpa[inB] using this
theorem cQ{vs:List Vl}{k:Nat}(h:k<vs.length):vAt vs ((k:Nat):Int).toNat=vs[k]:=by rw[sT];exact vAt_in h
theorem cmp17(a b:Rw)(l:List Int)(f:Bool)(n:Nat)(ha:a.vals.length=n)(hb:b.vals.length=n)(hl:l.length≤1000000)(ho:gd n l)(hs:∀v∈a.vals,v.s.size≤maxLen):aL Tryz.prog 260 [aI a,aI b,L1 f l] fun r=>r = .int .i64 (gJ a b l):=by
 obtain⟨E,hE⟩:∃E,E=gJ a b l:=⟨_,rfl⟩;rw[←hE];refine sPx Tryz.func260 rfl rfl ?_;simp -dsimp[Tryz.f260,rO,L1,aI,LV];refine aG (W_loopM 35 0x7ffffffc0 (by simp[mB]<;>rfl) (σ:=Nat) (fun i=>gJ a b (l.drop i)=E) (fun i=>l.length-i) (fun i=>[(7,.int .i64 i)]) (fun _=>[B.cells [.int .i64 a.id,.lst 3 false (a.vals.map aX)],B.cells [.int .i64 b.id,.lst 3 false (b.vals.map aX)]]) 0 (by rw[hE,rk]) (by simp) (by simp) (by simp) ?_);intro i hx N Q hN hQ;by_cases hi:i<l.length
 ·rw[rP hi,gJ]at hx;obtain⟨h1,h2⟩:=ho _ (rQ hi);obtain⟨k,hk⟩:=su h1
  have hka:k<a.vals.length:=by omega
  have hkb:k<b.vals.length:=by omega
  rw[hk,cQ hka,cQ hkb]at hx;have hsz:=hs _ (rQ hka);obtain⟨x,hxx⟩:∃x,x=a.vals[k]:=⟨_,rfl⟩;obtain⟨y,hyy⟩:∃y,y=b.vals[k]:=⟨_,rfl⟩;rw[←hxx,←hyy]at hx;rw[←hxx]at hsz;have c:=fW x y hsz;simp only[aX]at c;by_cases h0:eX x y=0
  ·rw[if_pos h0]at hx;rw[h0]at c;refine wx ?_;simp -dsimp[hi,hk,aE,aX,hka,hkb,hxx.symm,hyy.symm];refine .inr ⟨aC (by kernel_rfl),?_⟩;refine aN _ (aK (c) (by simp)) ?_;simp -dsimp[aH i (by omega)];refine hN (i+1) _ _ hx (by omega) (by simp) ⟨_,rfl⟩ (by simp[aE]) (by simp)
  ·rw[if_neg h0]at hx;refine wx ?_;simp -dsimp[hi,hk,aE,aX,hka,hkb,hxx.symm,hyy.symm];refine .inr ⟨aC (by kernel_rfl),?_⟩;refine aN _ (aK (c) (by simp)) ?_;simp -dsimp[h0];refine hQ _ _ _ ?_;simp -dsimp[];rw[hx]
 ·rw[rR (by omega),gJ]at hx;refine wx ?_;simp -dsimp[hi];refine hQ _ _ _ ?_;simp -dsimp[];rw[←hx]
theorem cmpO_u(a b:Rw)(l:List Int)(f:Bool)(n:Nat)(ha:a.vals.length=n)(hb:b.vals.length=n)(hl:l.length≤1000000)(ho:gd n l):aL Tryz.prog 241 [aI a,aI b,L1 f l] fun r=>r = .int .i64 (gJ a b l):=by
 obtain⟨E,hE⟩:∃E,E=gJ a b l:=⟨_,rfl⟩;rw[←hE];refine sPx Tryz.func241 rfl rfl ?_;simp -dsimp[Tryz.f241,rO,L1,aI,LV];refine aG (W_loopM 31 0x7ffff340 (by simp[mB]<;>rfl) (σ:=Nat) (fun i=>gJ a b (l.drop i)=E) (fun i=>l.length-i) (fun i=>[(12,.int .i64 i)]) (fun _=>[B.cells [.int .i64 a.id,.lst 3 false (a.vals.map aX)],B.cells [.int .i64 b.id,.lst 3 false (b.vals.map aX)]]) 0 (by rw[hE,rk]) (by simp) (by simp) (by simp) ?_);intro i hx N Q hN hQ;by_cases hi:i<l.length
 ·rw[rP hi,gJ]at hx;obtain⟨h1,h2⟩:=ho _ (rQ hi);obtain⟨k,hk⟩:=su h1
  have hka:k<a.vals.length:=by omega
  have hkb:k<b.vals.length:=by omega
  rw[hk,cQ hka,cQ hkb]at hx;obtain⟨x,hxx⟩:∃x,x=a.vals[k]:=⟨_,rfl⟩;obtain⟨y,hyy⟩:∃y,y=b.vals[k]:=⟨_,rfl⟩;rw[←hxx,←hyy]at hx;have c:=lg x y;simp only[aX]at c;by_cases h0:eX x y=0
  ·rw[if_pos h0]at hx;rw[h0]at c;refine wx ?_;simp -dsimp[hi,hk,aE,aX,hka,hkb,hxx.symm,hyy.symm];refine .inr ⟨aC (by kernel_rfl),?_⟩;refine aN _ (aK (c) (by simp)) ?_;simp -dsimp[aH i (by omega)];refine hN (i+1) _ _ hx (by omega) (by simp) ⟨_,rfl⟩ (by simp[aE]) (by simp)
  ·rw[if_neg h0]at hx;refine wx ?_;simp -dsimp[hi,hk,aE,aX,hka,hkb,hxx.symm,hyy.symm];refine .inr ⟨aC (by kernel_rfl),?_⟩;refine aN _ (aK (c) (by simp)) ?_;simp -dsimp[h0];refine hQ _ _ _ ?_;simp -dsimp[];rw[hx]
 ·rw[rR (by omega),gJ]at hx;refine wx ?_;simp -dsimp[hi];refine hQ _ _ _ ?_;simp -dsimp[];rw[←hx]
theorem wrapX{p q:Int}(hp : -1≤p∧p≤1)(hq : -1≤q∧q≤1):IntKind.i64.wrap (p*q)=p*q:=by
 have : -1≤p*q∧p*q≤1:=by
  obtain rfl | rfl | rfl:p = -1∨p=0∨p=1:=by omega
  ·omega
  ·omega
  ·omega
 exact wrap64 (by omega) (by omega)
theorem kind17(a b:Rw)(d:Od)(f g:Bool)(n:Nat)(ha:a.vals.length=n)(hb:b.vals.length=n)(hl:d.l.length≤1000000)(hr:d.r.length≤1000000)(h1:gd n d.l)(h2:gd n d.r)(hs:∀v∈a.vals,v.s.size≤maxLen):aL Tryz.prog 208 [aI a,aI b,bM f g d] fun r=>r = .int .i64 (px d a b):=by
 have c1:=cmp17 a b d.l f n ha hb hl h1 hs;have c2:=cmp17 a b d.r g n ha hb hr h2 hs;have w:=wrapX (jr a b d.l) (jr a b d.r);unfold px;obtain⟨p,hp⟩:∃p,p=gJ a b d.l:=⟨_,rfl⟩;obtain⟨q,hq⟩:∃q,q=gJ a b d.r:=⟨_,rfl⟩;rw[←hp]at c1 w ⊢;rw[←hq]at c2 w ⊢;simp only[L1,aI,LV]at c1 c2;by_cases h3:p=0
 ·by_cases h4:q=0
  ·rw[if_neg (by simp[h4]),if_neg (by rw[h3];omega)];refine sPx Tryz.func208 rfl rfl ?_;simp -dsimp[Tryz.f208,rO,L1,aI,LV,bM];refine .inr ⟨aC (by kernel_rfl),?_⟩;refine aN _ (aK (c1) (by simp)) ?_;simp -dsimp[];refine aN _ (aK (c2) (by simp)) ?_;simp -dsimp[h3,h4,w,show IntKind.i64.wrap (0:Int)=0 from wrap64 (by omega) (by omega)]
  ·rw[if_pos ⟨h3,h4⟩];refine sPx Tryz.func208 rfl rfl ?_;simp -dsimp[Tryz.f208,rO,L1,aI,LV,bM];refine .inr ⟨aC (by kernel_rfl),?_⟩;refine aN _ (aK (c1) (by simp)) ?_;simp -dsimp[];refine aN _ (aK (c2) (by simp)) ?_;simp -dsimp[h3,h4]
 ·rw[if_neg (fun h=>h3 h.1)];by_cases h5:p*q<0
  ·rw[if_pos h5];refine sPx Tryz.func208 rfl rfl ?_;simp -dsimp[Tryz.f208,rO,L1,aI,LV,bM];refine .inr ⟨aC (by kernel_rfl),?_⟩;refine aN _ (aK (c1) (by simp)) ?_;simp -dsimp[];refine aN _ (aK (c2) (by simp)) ?_;simp -dsimp[h3,w,h5]
  ·rw[if_neg h5];refine sPx Tryz.func208 rfl rfl ?_;simp -dsimp[Tryz.f208,rO,L1,aI,LV,bM];refine .inr ⟨aC (by kernel_rfl),?_⟩;refine aN _ (aK (c1) (by simp)) ?_;simp -dsimp[];refine aN _ (aK (c2) (by simp)) ?_;simp -dsimp[h3,w,h5]
theorem kind_u(a b:Rw)(d:Od)(f g:Bool)(n:Nat)(ha:a.vals.length=n)(hb:b.vals.length=n)(hl:d.l.length≤1000000)(hr:d.r.length≤1000000)(h1:gd n d.l)(h2:gd n d.r):aL Tryz.prog 192 [aI a,aI b,bM f g d] fun r=>r = .int .i64 (px d a b):=by
 have c1:=cmpO_u a b d.l f n ha hb hl h1;have c2:=cmpO_u a b d.r g n ha hb hr h2;have w:=wrapX (jr a b d.l) (jr a b d.r);unfold px;obtain⟨p,hp⟩:∃p,p=gJ a b d.l:=⟨_,rfl⟩;obtain⟨q,hq⟩:∃q,q=gJ a b d.r:=⟨_,rfl⟩;rw[←hp]at c1 w ⊢;rw[←hq]at c2 w ⊢;simp only[L1,aI,LV]at c1 c2;by_cases h3:p=0
 ·by_cases h4:q=0
  ·rw[if_neg (by simp[h4]),if_neg (by rw[h3];omega)];refine sPx Tryz.func192 rfl rfl ?_;simp -dsimp[Tryz.f192,rO,L1,aI,LV,bM];refine .inr ⟨aC (by kernel_rfl),?_⟩;refine aN _ (aK (c1) (by simp)) ?_;simp -dsimp[];refine aN _ (aK (c2) (by simp)) ?_;simp -dsimp[h3,h4,w,show IntKind.i64.wrap (0:Int)=0 from wrap64 (by omega) (by omega)]
  ·rw[if_pos ⟨h3,h4⟩];refine sPx Tryz.func192 rfl rfl ?_;simp -dsimp[Tryz.f192,rO,L1,aI,LV,bM];refine .inr ⟨aC (by kernel_rfl),?_⟩;refine aN _ (aK (c1) (by simp)) ?_;simp -dsimp[];refine aN _ (aK (c2) (by simp)) ?_;simp -dsimp[h3,h4]
 ·rw[if_neg (fun h=>h3 h.1)];by_cases h5:p*q<0
  ·rw[if_pos h5];refine sPx Tryz.func192 rfl rfl ?_;simp -dsimp[Tryz.f192,rO,L1,aI,LV,bM];refine .inr ⟨aC (by kernel_rfl),?_⟩;refine aN _ (aK (c1) (by simp)) ?_;simp -dsimp[];refine aN _ (aK (c2) (by simp)) ?_;simp -dsimp[h3,w,h5]
  ·rw[if_neg h5];refine sPx Tryz.func192 rfl rfl ?_;simp -dsimp[Tryz.f192,rO,L1,aI,LV,bM];refine .inr ⟨aC (by kernel_rfl),?_⟩;refine aN _ (aK (c1) (by simp)) ?_;simp -dsimp[];refine aN _ (aK (c2) (by simp)) ?_;simp -dsimp[h3,w,h5]
end
end Go.Proofs.YtjogkbekekdkjaaGreatDoor
namespace Go.Proofs.YtjogkbekekdkjaaGreatDoor
section
open Go Go.AM Go.RowKit
theorem capNd(n:Nat)(h:n≤1000000000):n≤9223372036854775806∧(n+1)*32≤140737488355328:=by omega
theorem capSh(n:Nat)(h:n≤1000000000):n≤9223372036854775806∧(n+1)*16≤140737488355328:=by omega
theorem infoD_D:(Tryz.prog.info? 77).map (fun i=>(i.zero,i.size,i.bytes))=some (some (.agg #[.int .i64 0,.slice none 0 0]),2,32):=by kernel_rfl
theorem cloneE_D(A:Option Addr)(cap:Nat)(w:World):
  Calls Tryz.prog 24 #[.slice A 0 cap] w fun e w'=>∃v,e = .returned v∧w'.ownsRow w.heap.size 77 2 v 0 []∧Below w.heap.size w w':=by
 have hnil:=fun W A n c=>Lib.run_eql_slice_nil (P:=Tryz.prog) W 66 77 A n c 0 0 Tryz.underlying66
 cases A with
 | none =>
  go_enter Tryz.func24,Tryz.ntmps24
  go_wp2
  go_ret
  exact⟨_,rfl,World.ownsRow_nil _ _ _ _,Below.refl _ _⟩
 | some ad =>
  obtain⟨i0,hi,hz0,hz1,hz2⟩:=info_parts infoD_D;have hown:(w.alloc (.cells #[] 77)).ownsRow w.heap.size 77 2 (.slice (some ⟨w.heap.size,0,none⟩) 0 0) 0 []:=World.ownsRow_lit w #[] 0 (rd _) (by simp[maxLen]) (by simp)
  have hnews:∀j u,([]:List Value)[j]?=some u→(w.alloc (.cells #[] 77)).cell? (ad.add j)=some u:=by
   intro j u hu;simp at hu
  have hone:∀u∈([]:List Value),u.oneCell'=true:=by intro u hu;cases hu
  have h63:0+0≤maxLen:=by simp[maxLen]
  have hby:(0+0)*32≤140737488355328:=by omega
  have hlen:([]:List Value).length=0*2:=by simp
  have Hi:=Lib.hid (show Tryz.prog.info? 77=some i0∧i0.zero=some _∧i0.size=2∧i0.bytes=32 from⟨hi,hz0,hz1,hz2⟩);have Hw:=Lib.hid (And.intro hown (And.intro hnews (And.intro hone (And.intro h63 (And.intro hby hlen)))));clear hnews hone hown hi hz0 hz1 hz2 h63 hby hlen
  go_enter Tryz.func24,Tryz.ntmps24
  go_wp2_with (at_builtin;refine wpList_append_own _ rfl _ _ 66 rfl w.heap.size 77 i0 _ 2 32 Tryz.underlying66 Hi.out.1 Hi.out.2.1 Hi.out.2.2.1 Hi.out.2.2.2 rfl (by omega) (.slice (some ⟨w.heap.size,0,none⟩) 0 0) 0 [] rfl Hw.out.1 ad 0 cap [] rfl Hw.out.2.2.2.2.2 Hw.out.2.1 Hw.out.2.2.1 Hw.out.2.2.2.1 Hw.out.2.2.2.2.1 (by simp) ?_;intro v1 w1 ho hg hn;have Ho:=Lib.hid ho;have Hg:=Lib.hid hg;have Hn:=Lib.hid hn;clear ho hg hn)
  go_ret
  exact⟨v1,rfl,by have:=Ho.out;simpa using this,((Below.refl _ _).alloc (rd _) _).grown Hg.out (by simp) (by simp[Value.ownBlock])⟩
theorem cloneN_D:∀(f:Bool),aL Tryz.prog 24 [.lst 2 f []] fun r=>r = .lst 2 false []:=fun f=>by
 have hO:gy Tryz.prog 24 [.lst 2 f []] fun e z ys=>e=77∧z=2∧ys=[]:=eg ⟨Tryz.f24,Tryz.func24,rfl,rfl⟩ (fun F w vals hsz hrel=>by
  obtain⟨u0,rfl⟩:∃u0,vals = #[u0]:=by
   obtain⟨l⟩:=vals
   match l,hsz with
   | [a],_=>exact⟨a,rfl⟩
  have r0:=hrel 0 _ u0 rfl rfl;cases r0
  refine(cloneE_D _ _ _).mono fun e' w' ⟨v,he,hown,hb⟩=>⟨v,he,hb,?_⟩
  obtain⟨_,⟨hv,_⟩ | ⟨g,c,cur,hv,hg,hc,hn,hm,hs,_⟩⟩:=hown
  ·exact .inl hv
  ·exact .inr ⟨g,c,cur,hv,hg,hc,hm,hs⟩)
 refine⟨hO.1,fun F w vals hZ hF hsz hrel=>((eO hO).2 F w vals hZ hF hsz hrel).mono fun e w' ⟨u,r,h1,h2,h3,h4,e',z,ys,h5,h6,h7,h8⟩=>?_⟩;subst h6;subst h7;subst h8;exact⟨u,r,h1,h2,h3,h4,h5⟩
theorem clone_D(l:List Nde)(f:Bool)(hl:l.length≤1000000):aL Tryz.prog 24 [LNd f l] fun r=>r=LNd false l:=by
 cases l with
 | nil=>exact cloneN_D f
 | cons x xs =>
  have hl':xs.length≤1000000:=by simp only[sB]at hl;omega
  refine sPx Tryz.func24 rfl rfl ?_;simp -dsimp[Tryz.f24,rO,LNd,dm,capNd xs.length (by omega),aS];exact dP rfl (by simp) (by simp)
theorem cloneO0_D(f:Bool):gy Tryz.prog 24 [.lst 2 f []] fun e z ys=>e=77∧z=2∧ys=[]:=eg ⟨Tryz.f24,Tryz.func24,rfl,rfl⟩ (fun F w vals hsz hrel=>by
  obtain⟨u0,rfl⟩:∃u0,vals = #[u0]:=by
   obtain⟨l⟩:=vals
   match l,hsz with
   | [a],_=>exact⟨a,rfl⟩
  have r0:=hrel 0 _ u0 rfl rfl;cases r0
  refine(cloneE_D _ _ _).mono fun e' w' ⟨v,he,hown,hb⟩=>⟨v,he,hb,?_⟩
  obtain⟨_,⟨hv,_⟩ | ⟨g,c,cur,hv,hg,hc,hn,hm,hs,_⟩⟩:=hown
  ·exact .inl hv
  ·exact .inr ⟨g,c,cur,hv,hg,hc,hm,hs⟩)
theorem cloneO_D(l:List Nde)(f:Bool)(hl:l.length≤1000000):gy Tryz.prog 24 [.lst 2 f (l.map aS)] fun e z ys=>e=77∧z=2∧ys=l.map aS:=by
 cases l with
 | nil=>exact cloneO0_D f
 | cons x xs =>
  have hl':xs.length≤1000000:=by simp only[sB]at hl;omega
  refine sOx Tryz.func24 rfl rfl ?_;simp -dsimp[Tryz.f24,rO,dm,capNd xs.length (by omega),aS];exact⟨0,77,2,aS x::xs.map aS,by simp,rfl,by simp,rfl,rfl,rfl⟩
theorem infoD_S:(Tryz.prog.info? 121).map (fun i=>(i.zero,i.size,i.bytes))=some (some (.agg #[.int .i64 0,.int .i64 0]),2,16):=by kernel_rfl
theorem cloneE_S(A:Option Addr)(cap:Nat)(w:World):
  Calls Tryz.prog 61 #[.slice A 0 cap] w fun e w'=>∃v,e = .returned v∧w'.ownsRow w.heap.size 121 2 v 0 []∧Below w.heap.size w w':=by
 have hnil:=fun W A n c=>Lib.run_eql_slice_nil (P:=Tryz.prog) W 75 121 A n c 0 0 Tryz.underlying75
 cases A with
 | none =>
  go_enter Tryz.func61,Tryz.ntmps61
  go_wp2
  go_ret
  exact⟨_,rfl,World.ownsRow_nil _ _ _ _,Below.refl _ _⟩
 | some ad =>
  obtain⟨i0,hi,hz0,hz1,hz2⟩:=info_parts infoD_S;have hown:(w.alloc (.cells #[] 121)).ownsRow w.heap.size 121 2 (.slice (some ⟨w.heap.size,0,none⟩) 0 0) 0 []:=World.ownsRow_lit w #[] 0 (rd _) (by simp[maxLen]) (by simp)
  have hnews:∀j u,([]:List Value)[j]?=some u→(w.alloc (.cells #[] 121)).cell? (ad.add j)=some u:=by
   intro j u hu;simp at hu
  have hone:∀u∈([]:List Value),u.oneCell'=true:=by intro u hu;cases hu
  have h63:0+0≤maxLen:=by simp[maxLen]
  have hby:(0+0)*16≤140737488355328:=by omega
  have hlen:([]:List Value).length=0*2:=by simp
  have Hi:=Lib.hid (show Tryz.prog.info? 121=some i0∧i0.zero=some _∧i0.size=2∧i0.bytes=16 from⟨hi,hz0,hz1,hz2⟩);have Hw:=Lib.hid (And.intro hown (And.intro hnews (And.intro hone (And.intro h63 (And.intro hby hlen)))));clear hnews hone hown hi hz0 hz1 hz2 h63 hby hlen
  go_enter Tryz.func61,Tryz.ntmps61
  go_wp2_with (at_builtin;refine wpList_append_own _ rfl _ _ 75 rfl w.heap.size 121 i0 _ 2 16 Tryz.underlying75 Hi.out.1 Hi.out.2.1 Hi.out.2.2.1 Hi.out.2.2.2 rfl (by omega) (.slice (some ⟨w.heap.size,0,none⟩) 0 0) 0 [] rfl Hw.out.1 ad 0 cap [] rfl Hw.out.2.2.2.2.2 Hw.out.2.1 Hw.out.2.2.1 Hw.out.2.2.2.1 Hw.out.2.2.2.2.1 (by simp) ?_;intro v1 w1 ho hg hn;have Ho:=Lib.hid ho;have Hg:=Lib.hid hg;have Hn:=Lib.hid hn;clear ho hg hn)
  go_ret
  exact⟨v1,rfl,by have:=Ho.out;simpa using this,((Below.refl _ _).alloc (rd _) _).grown Hg.out (by simp) (by simp[Value.ownBlock])⟩
theorem cloneN_S:∀(f:Bool),aL Tryz.prog 61 [.lst 2 f []] fun r=>r = .lst 2 false []:=fun f=>by
 have hO:gy Tryz.prog 61 [.lst 2 f []] fun e z ys=>e=121∧z=2∧ys=[]:=eg ⟨Tryz.f61,Tryz.func61,rfl,rfl⟩ (fun F w vals hsz hrel=>by
  obtain⟨u0,rfl⟩:∃u0,vals = #[u0]:=by
   obtain⟨l⟩:=vals
   match l,hsz with
   | [a],_=>exact⟨a,rfl⟩
  have r0:=hrel 0 _ u0 rfl rfl;cases r0
  refine(cloneE_S _ _ _).mono fun e' w' ⟨v,he,hown,hb⟩=>⟨v,he,hb,?_⟩
  obtain⟨_,⟨hv,_⟩ | ⟨g,c,cur,hv,hg,hc,hn,hm,hs,_⟩⟩:=hown
  ·exact .inl hv
  ·exact .inr ⟨g,c,cur,hv,hg,hc,hm,hs⟩)
 refine⟨hO.1,fun F w vals hZ hF hsz hrel=>((eO hO).2 F w vals hZ hF hsz hrel).mono fun e w' ⟨u,r,h1,h2,h3,h4,e',z,ys,h5,h6,h7,h8⟩=>?_⟩;subst h6;subst h7;subst h8;exact⟨u,r,h1,h2,h3,h4,h5⟩
theorem cloneO0_S(f:Bool):gy Tryz.prog 61 [.lst 2 f []] fun e z ys=>e=121∧z=2∧ys=[]:=eg ⟨Tryz.f61,Tryz.func61,rfl,rfl⟩ (fun F w vals hsz hrel=>by
  obtain⟨u0,rfl⟩:∃u0,vals = #[u0]:=by
   obtain⟨l⟩:=vals
   match l,hsz with
   | [a],_=>exact⟨a,rfl⟩
  have r0:=hrel 0 _ u0 rfl rfl;cases r0
  refine(cloneE_S _ _ _).mono fun e' w' ⟨v,he,hown,hb⟩=>⟨v,he,hb,?_⟩
  obtain⟨_,⟨hv,_⟩ | ⟨g,c,cur,hv,hg,hc,hn,hm,hs,_⟩⟩:=hown
  ·exact .inl hv
  ·exact .inr ⟨g,c,cur,hv,hg,hc,hm,hs⟩)
theorem cloneO_S(l:List Shr)(f:Bool)(hl:l.length≤1000000):gy Tryz.prog 61 [.lst 2 f (l.map aP)] fun e z ys=>e=121∧z=2∧ys=l.map aP:=by
 cases l with
 | nil=>exact cloneO0_S f
 | cons x xs =>
  have hl':xs.length≤1000000:=by simp only[sB]at hl;omega
  refine sOx Tryz.func61 rfl rfl ?_;simp -dsimp[Tryz.f61,rO,dm,capSh xs.length (by omega),aP];exact⟨0,121,2,aP x::xs.map aP,by simp,rfl,by simp,rfl,rfl,rfl⟩
end
end Go.Proofs.YtjogkbekekdkjaaGreatDoor
