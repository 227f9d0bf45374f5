/- JM16: own texts of this seat, joined and shortened by pack4.py: Rl, GrH, GrZ, CatZ, Wd, T11, Gr. -/
import Derived.Test.YtjogkbekekdkjaaGreatDoorJM13
import Derived.WalkKit
import Derived.Lib.Walk
import Derived.Lib.SliceRun
import Derived.Lib.AppendZerosOnto
import Derived.OwnWalk
set_option linter.unusedVariables false
set_option linter.unusedSimpArgs false
set_option maxRecDepth 100000
set_option maxHeartbeats 64000000
open Array renaming size_append→ro
open Bool renaming and_eq_true→pC,false_eq_true→pQ,not_eq_true'→pg,or_eq_true→pu,false_or→qX
open ByteArray renaming empty→pE
open List renaming replicate→ou,getElem?_eq_getElem→ov,getElem_mem→ow,mem_of_getElem?→oz,not_mem_nil→pA,mem_cons→pD,range→pG,take_succ_eq_append_getElem→pJ,length_append→pK,append_nil→pL,mem_of_mem_take→pi,getElem?_map→pj,take_length→pt,map_append→qB,take_append_drop→qF,getElem?_cons_succ→qg,flatten_append→sA,tail→sU
open Nat renaming le_refl→pI,lt_of_lt_of_le→pd,add_mul→pf,zero_le→pv,zero_add→qM
open Option renaming map_some→pm
namespace Go.Proofs.YtjogkbekekdkjaaGreatDoor
section
open Go Go.AM
theorem relL_le{s:AM.St}{z:Nat}{xs ys:List V}{fl:Bool}{u:Value}(h:Rel s (.lst z fl xs) u)(hl:xs.length=ys.length)(hz:∀y∈ys,y.cells.length=z∧∀c∈y.cells,c.one=true)
  (hle:∀(i:Nat) x y,xs[i]?=some x→ys[i]?=some y→∀(j:Nat) c,y.cells[j]?=some c→∃d,x.cells[j]?=some d∧lfB d c):Rel s (.lst z fl ys) u:=by
 cases h with
 | lst _ _ _ A cap b off u hcap hfull hA hz0 hcell hrel =>
  rw[hl];refine .lst z fl ys A cap b off u (by omega) (fun h=>by rw[←hl];exact hfull h) (fun h=>hA (by omega)) hz (fun i y j c hy hc=>?_) (fun i y j c hy hc=>?_)
  ·have hx:xs[i]?=some (xs[i]'(by have:=aB hy;omega)):=ov _;obtain⟨d,hd,_⟩:=hle i _ y hx hy j c hc;exact hcell i _ j d hx hd
  ·have hx:xs[i]?=some (xs[i]'(by have:=aB hy;omega)):=ov _;obtain⟨d,hd,h2⟩:=hle i _ y hx hy j c hc;exact mU (hrel i _ j d hx hd) h2
theorem conP_resL{P:Program}{f:FuncId}{args:List V}{K K':V→Prop}(h:aE P f args K)(hk:∀s u r,K r→Rel s r u→∃r',Rel s r' u∧AM.Pure r'∧K' r'):aE P f args K':=by
 refine⟨h.1,fun F w vals hZ hF hsz hrel=>(h.2 F w vals hZ hF hsz hrel).mono fun e w' ⟨u,r,a1,a2,a3,a4,a5⟩=>?_⟩;obtain⟨r',b1,b2,b3⟩:=hk _ u r a5 a3;exact⟨u,r',a1,b2,b1,a4,b3⟩
def LT(g:Bool)(es:List (List Int)):V:=.lst 1 g (es.map (L1 true))
theorem LT_rb(n e:Nat)(es:List (List Int)):rbB n (.buf e 1 (es.map (L1 true)) false):=(rbB_buf1 (fun x hx=>by obtain⟨y,_,rfl⟩:=List.mem_map.1 hx;exact⟨by simp,rfl⟩)).2 trivial
theorem LF_rb(n e:Nat)(es:List (List Int)):rbB n (.buf e 1 (es.map (L1 false)) false):=(rbB_buf1 (fun x hx=>by obtain⟨y,_,rfl⟩:=List.mem_map.1 hx;exact⟨by simp,rfl⟩)).2 trivial
theorem rel_LT{s:AM.St}{g:Bool}{es:List (List Int)}{u:Value}(h:Rel s (LT g es) u):Rel s (LL g es) u:=by
 refine relL_le h (by simp) (fun y hy=>?_) (fun i x y hx hy j c hc=>?_)
 ·obtain⟨z,_,rfl⟩:=List.mem_map.1 hy;refine⟨rfl,fun c hc=>?_⟩;simp only[L1,V.cells,pD,pA,or_false]at hc;subst hc;rfl
 ·rw[pj]at hx hy
  cases hz:es[i]? with
  | none=>rw[hz]at hx;cases hx
  | some z =>
   rw[hz]at hx hy;simp only[pm,Option.some.injEq]at hx hy;subst hx;subst hy
   match j with
   | 0 =>
    simp[L1,V.cells]at hc;subst hc;exact⟨_,rfl,.inr (.inl ⟨1,z.map au,rfl,rfl⟩)⟩
   | j+1=>simp[L1,V.cells]at hc
theorem rel_tup2{s:AM.St}{a a' b:V}{u:Value}(h:Rel s (.tup [a,b]) u)(ha:∀x,Rel s a x→Rel s a' x):Rel s (.tup [a',b]) u:=by
 cases h with
 | tup _ us hl hr =>
  refine .tup _ us (by simpa using hl) (fun i v x hv hx=>?_)
  match i with
  | 0=>simp at hv;subst hv;exact ha _ (hr 0 a x rfl hx)
  | 1=>simp at hv;subst hv;exact hr 1 _ x rfl hx
  | i+2=>simp at hv
theorem conP_LT{P:Program}{f:FuncId}{args:List V}{es:List (List Int)}{e:Int}(h:aE P f args fun r=>r = .tup [LT false es,.int .i64 e]):aE P f args fun r=>r = .tup [LL false es,.int .i64 e] :=
 conP_resL h fun s u r hr hrel=>⟨_,rel_tup2 (hr▸hrel) fun x=>rel_LT,by simp[LL],rfl⟩
end
end Go.Proofs.YtjogkbekekdkjaaGreatDoor
namespace Go.Proofs.YtjogkbekekdkjaaGreatDoor
section
open Go Go.AM Go.RowKit Go.Lib
theorem conO_row{f:FuncId}{args:List V}{e z:Nat}(hE:AM.Enters Tryz.prog f)(h:∀(F:Nat→Prop) (w:World) (vals:Array Value),vals.size=args.length→(∀(i:Nat) a u,args[i]?=some a→vals[i]?=some u→Rel (AM.base F w) a u)→
  Calls Tryz.prog f vals w fun e' w'=>∃v,e' = .returned v∧Below w.heap.size w w'∧(v = .slice none 0 0∨∃g c cur,v = .slice (some ⟨g,0,none⟩) 0 c∧w.heap.size≤g∧w'.heap[g]?=some (.cells cur e (0,0))∧c≠0∧c≤maxLen∧cur.size=c*z)):fQ Tryz.prog f args fun e' z' ys=>e'=e∧z'=z∧ys=[]:=by
 refine⟨hE,fun F w vals hZ hF hsz hrel=>(h F w vals hsz hrel).mono fun e' w' ⟨v,he,hb,hv⟩=>?_⟩
 rcases hv with hv | ⟨g,c,cur,hv,hg,hc,hn,hm,hs⟩
 ·have hF':∀b,F b→b<w'.heap.size:=fun b hb'=>pd (hF b hb') hb.size
  obtain⟨p1,_⟩:=mi (AM.base_good hF') (w:=w') 0 e z false rfl rfl rfl (pI _) (fun _ _=>rfl);refine⟨v,e,z,[],none,0,0,he,hv,fun h=>absurd rfl h,by simp,fun h=>absurd rfl h,?_,hb,rfl,rfl,rfl⟩;refine⟨hF',fun k hk=>absurd (hk.2 e z [] false (by have:=hk.1;simp at this;subst this;rfl)) (by simp),fun j k hj hk _=>by have:=hj.1;have:=hk.1;simp at *;omega,fun k bl hk=>?_⟩
  have hk0:k=0:=by have:=aB hk;simp at this;omega
  subst hk0;simp at hk;subst hk;exact⟨#[],fun h=>absurd rfl h,by simp,by simp,by simp[maxLen],(fun x hx=>by cases hx),(fun i x j c u hx=>by simp at hx)⟩
 ·have hF':∀b,F b→b<w'.heap.size:=fun b hb'=>pd (hF b hb') hb.size
  refine⟨v,e,z,[],some ⟨g,0,none⟩,g,c,he,hv,fun _=>rfl,by simp,fun _=>hg,?_,hb,rfl,rfl,rfl⟩;refine⟨hF',fun k hk=>⟨(Array.getElem?_eq_some_iff.1 hc).1,fun hf=>by have:=hF g hf;omega⟩,fun j k hj hk _=>by have:=hj.1;have:=hk.1;simp at *;omega,fun k bl hk=>?_⟩
  have hk0:k=0:=by have:=aB hk;simp at this;omega
  subst hk0;simp at hk;subst hk;exact⟨cur,fun _=>hc,by simpa using hs,by simp,hm,(fun x hx=>by cases hx),(fun i x j c u hx=>by simp at hx)⟩
theorem infoG_Z:(Tryz.prog.info? 2).map (fun i=>(i.zero,i.size,i.bytes))=some (some (.int .i64 0),1,8):=by kernel_rfl
theorem growPos_Z(n:Nat)(w:World)(h0:0<n)(hn:n≤1000000):Calls Tryz.prog 196 #[.slice none 0 0,.int .i64 n] w fun e w' =>
   e = .returned (.slice (some ⟨w.heap.size,0,none⟩) 0 (grownCap w n 0 2))∧w'=w.drew.alloc (.cells (Builtin.zeroCells (.int .i64 0:Value).cells n++Builtin.zeroCells (.int .i64 0:Value).cells (grownCap w n 0 2-n)) 2):=by
 obtain⟨i0,hi0,hz0,hs0,hby⟩:=info_parts infoG_Z
 have h1:¬((n:Int)<0):=by omega
 have hz25:∀w,(Go.sizeOf 2).run Tryz.prog w = .ok 1 w:=fun w=>by simp[Go.sizeOf,typeInfo,hi0,hs0]
 have hold:(Builtin.firstCells i0.size 0 (.slice none 0 0)).run Tryz.prog w.drew = .ok ([]:List Value).toArray w.drew:=run_firstCells_none w.drew i0.size 0 0 0
 have hbig:(0+n)*i0.bytes≤140737488355328:=by rw[hby];omega
 have hrz:∀ty,(Builtin.append_ #[34,3] ty #[.slice none 0 0,.int .i64 (n:Int)]).run Tryz.prog w =
   .ok (.slice (some ⟨w.heap.size,0,none⟩) n (grownCap w n 0 2)) (w.drew.alloc (.cells (Builtin.zeroCells (.int .i64 0:Value).cells n++Builtin.zeroCells (.int .i64 0:Value).cells (grownCap w n 0 2-n)) 2)):=fun ty=>by
  have h:=Lib.run_append_grow_zeros (P:=Tryz.prog) w 34 3 ty 2 i0 _ .i64 .i64 Tryz.underlying34 Tryz.underlying3 hi0 hz0 none 0 0 [] hold n h0 (by omega) (by omega) (by omega)
   (by rw[hby];omega)
   (growslice_fits (by omega) hbig)
  simpa using h
 have hGn:n≤grownCap w n 0 2:=grownCap_ge w _ _ _;obtain⟨G,hG⟩:∃G,G=grownCap w n 0 2:=⟨_,rfl⟩;rw[←hG]at hrz hGn ⊢
 have hG63:G≤9223372036854775807:=by
  have:=grownCap_le_maxLen w n 0 2 (by unfold maxLen;omega);rw[←hG]at this;unfold maxLen at this;omega
 have h2:RowKit.wrap64 ((0:Int)-0)=0:=by unfold RowKit.wrap64;omega
 have h3:RowKit.wrap64 ((n:Int)-0)=(n:Int):=by unfold RowKit.wrap64;omega
 have h4:(n:Int)> 0:=by omega
 clear hold hG hbig
 go_enter Tryz.func196,Tryz.ntmps196
 go_wp2_with (at_builtin;refine Lib.wpList_append_run _ rfl _ _ _ _ rfl _ _ rfl rfl _ _ (hrz _) ?_)
 all_goals (go_ret;exact⟨rfl,rfl⟩)
theorem growNil_Z(w:World):Calls Tryz.prog 196 #[.slice none 0 0,.int .i64 0] w fun e w'=>e = .returned (.slice none 0 0)∧w'=w:=by
 go_enter Tryz.func196,Tryz.ntmps196
 go_wp2
 go_ret
 exact⟨rfl,rfl⟩
theorem oB(n:Nat)(hn:n≤1000000):fQ Tryz.prog 196 [.nilS,.int .i64 n] fun e z ys=>e=2∧z=1∧ys=[]:=by
 refine conO_row ⟨Tryz.f196,Tryz.func196,rfl,rfl⟩ (fun F w vals hsz hrel=>?_)
 obtain⟨u0,u1,rfl⟩:∃u0 u1,vals = #[u0,u1]:=by
  obtain⟨l⟩:=vals
  match l,hsz with
  | [a,b],_=>exact⟨a,b,rfl⟩
 have r0:=hrel 0 _ u0 rfl rfl;have r1:=hrel 1 _ u1 rfl rfl;cases r0;cases r1;by_cases h0:n=0
 ·subst h0
  exact(growNil_Z w).mono fun e w' ⟨h1,h2⟩=>⟨_,h1,by subst h2;exact Below.refl _ _,.inl rfl⟩
 ·refine(growPos_Z n w (by omega) hn).mono fun e w' ⟨h1,h2⟩=>?_
  subst h2;have hge:=grownCap_ge w n 0 2;refine⟨_,h1,((Below.refl _ _).drew).alloc (pI _) _,.inr ⟨w.heap.size,grownCap w n 0 2,Builtin.zeroCells (.int .i64 0:Value).cells n++Builtin.zeroCells (.int .i64 0:Value).cells (grownCap w n 0 2-n),rfl,pI _,?_,by omega,grownCap_le_maxLen w n 0 2 (by unfold maxLen;omega),?_⟩⟩
  ·exact Array.getElem?_push_size (xs:=w.heap)
  ·rw[ro,size_zeroCells,size_zeroCells,←pf,Nat.add_sub_cancel' hge];rfl
theorem grow_nil_Z:aE Tryz.prog 196 [.nilS,.int .i64 0] fun r=>r = .nilS:=by
 refine⟨⟨Tryz.f196,Tryz.func196,rfl,rfl⟩,fun F w vals hZ hF hsz hrel=>?_⟩
 obtain⟨u0,u1,rfl⟩:∃u0 u1,vals = #[u0,u1]:=by
  obtain⟨l⟩:=vals
  match l,hsz with
  | [a,b],_=>exact⟨a,b,rfl⟩
 have r0:=hrel 0 _ u0 rfl rfl;have r1:=hrel 1 _ u1 rfl rfl;cases r0;cases r1
 refine(growNil_Z w).mono fun e w' ⟨h1,h2⟩=>⟨_,_,h1,.nilS,.nilS,by subst h2;exact Below.refl _ _,rfl⟩
end
end Go.Proofs.YtjogkbekekdkjaaGreatDoor
namespace Go.Proofs.YtjogkbekekdkjaaGreatDoor
section
open Go Go.AM Go.RowKit
structure FlVZ where
 f:Bool
 xs:List V
def jG(l:FlVZ):V:=.lst 1 l.f l.xs
def iG(ls:List FlVZ):List V:=(ls.map (·.xs)).flatten
theorem oS(ls:List FlVZ)(i:Nat)(h:i<ls.length):iG (ls.take (i+1))=iG (ls.take i)++ls[i].xs:=by
 unfold iG;rw[pJ h,qB,sA];simp
theorem catL_leZ(ls:List FlVZ)(i:Nat):(iG (ls.take i)).length≤(iG ls).length:=by
 conv=>rhs;rw[←qF i ls]
 unfold iG;rw[qB,sA,pK];omega
theorem lI{ls:List FlVZ}(hp:∀l∈ls,∀x∈l.xs,AM.Pure x∧cq x=true∧x.cells.length=1):∀x∈iG ls,AM.Pure x∧cq x=true:=by
 intro x hx;obtain⟨l,hl,h⟩:=List.mem_flatten.1 hx;obtain⟨y,hy,rfl⟩:=List.mem_map.1 hl;exact⟨(hp y hy x h).1,(hp y hy x h).2.1⟩
theorem catW_Z(n:Nat)(h:n≤1000000):n≤9223372036854775807∧n*8≤140737488355328:=by omega
theorem oN(ls:List FlVZ)(g:Bool)(hp:∀l∈ls,∀x∈l.xs,AM.Pure x∧cq x=true∧x.cells.length=1)(hl:ls.length≤1000000)(hs:(iG ls).length≤1000000):aE Tryz.prog 135 [.lst 1 g (ls.map jG)] fun r=>r = .lst 1 false (iG ls):=by
 have htl:=fun i=>catL_leZ ls i
 have hpF:∀l∈ls,AM.Pure (jG l):=fun l hl=>.lst _ _ _ (fun x hx=>(hp l hl x hx).1)
 refine sPx Tryz.func135 rfl rfl ?_;simp -dsimp[Tryz.f135,ou,jG];refine aR (W_loopM 23 0x7ff828 (by simp[mB]<;>rfl) (σ:=Nat) (fun i=>i≤ls.length) (fun i=>ls.length-i) (fun i=>[(11,.int .i64 i),(3,.int .i64 ((iG (ls.take i)).length:Nat))]) (fun _=>[]) 0 (by omega) (by simp[iG]) rfl (by simp) ?_);intro i hi N Q hN hQ;by_cases hb:i<ls.length
 ·have hsu:=oS ls i hb;have h1:=htl i;have h2:=htl (i+1);rw[hsu,pK]at h2;obtain⟨c,hc⟩:∃c,c=(iG (ls.take i)).length:=⟨_,rfl⟩;rw[←hc]at h1 h2
  have hlx:(iG (ls.take (i+1))).length=c+ls[i].xs.length:=by rw[hsu,pK,hc]
  obtain⟨x,hx⟩:∃x,x=ls[i]:=⟨_,rfl⟩;rw[←hx]at h2 hlx;have hx':=hx.symm;obtain⟨d,hd⟩:∃d,d=c+x.xs.length:=⟨_,rfl⟩
  have hw:IntKind.i64.wrap ((c:Int)+(x.xs.length:Int))=(d:Int):=by rw[wrap64 (by omega) (by omega),hd];push_cast;rfl
  refine wx ?_;simp -dsimp[hb,hx',hw,show ¬(d:Int)<0 by omega,aa i (by omega),←hc,jG];refine hN (i+1) _ _ (by omega) (by omega) (by simp[hlx,hd]) ⟨[],rfl⟩ (by simp;exact hpF) (by simp)
 ·obtain rfl:i=ls.length:=by omega
  rw[pt];have hg:=mJ (H:=[]) (oB (iG ls).length hs) (by simp);refine wx ?_;simp -dsimp[hb,jG];refine hQ _ _ _ ?_;simp -dsimp[jG];refine hg.mono ?_;rintro r H' ⟨e,z,xs,rfl,rfl,_,rfl,rfl,rfl⟩;simp -dsimp[jG];refine aR (W_loopM 35 0x7f8000140 (by simp[mB]<;>rfl) (σ:=Nat) (fun i=>i≤ls.length) (fun i=>ls.length-i) (fun i=>[(27,.int .i64 i),(6,.buf 0 0 (iG (ls.take i)).length (iG (ls.take i)).length)]) (fun i=>[B.buf 2 1 (iG (ls.take i)) false]) 0 (by omega) (by simp[iG]) (by simp[iG]) (by simp) ?_);intro i hi N2 Q2 hN2 hQ2;by_cases hb:i<ls.length
  ·have hsu:=oS ls i hb;have h2:=htl (i+1);have hpi:=hp ls[i] (ow hb);have hpc:=lI (ls:=ls.take (i+1)) (fun l hl=>hp l (pi hl));obtain⟨x,hx⟩:∃x,x=ls[i]:=⟨_,rfl⟩;rw[←hx]at hsu hpi;have hx':=hx.symm;rw[hsu]at h2 hpc;obtain⟨xs,hxs⟩:∃xs,xs=x.xs:=⟨_,rfl⟩;have hxs':=hxs.symm;rw[←hxs]at hsu h2 hpc hpi;by_cases h0:xs=[]
   ·rw[h0,pL]at hsu;refine wx ?_;simp -dsimp[hb,hx',hxs',h0,aa i (by omega),jG];refine hN2 (i+1) _ _ (by omega) (by omega) (by simp[hsu]) ⟨[],by simp[hsu]⟩ (by simp;exact hpF) (by rw[h0,pL]at hpc;intro bl hbl;rcases List.mem_cons.1 hbl with rfl | hbl;exact(rbB_buf1 (by rw[hsu];exact hpc)).2 trivial;cases hbl)
   ·obtain⟨c,hc⟩:∃c,c=iG (ls.take i):=⟨_,rfl⟩;rw[←hc]at hsu h2 hpc;rw[pK]at h2;refine wx ?_;simp -dsimp[hb,hx',hxs',h0,aa i (by omega),←hc,catW_Z (c.length+xs.length) (by omega),jG];refine hN2 (i+1) _ _ (by omega) (by omega) (by simp[hsu]) ⟨[],by simp[hsu]⟩ (by simp;exact hpF) (by intro bl hbl;rcases List.mem_cons.1 hbl with rfl | hbl;exact(rbB_buf1 (by rw[hsu];exact hpc)).2 trivial;cases hbl)
  ·obtain rfl:i=ls.length:=by omega
   rw[pt];refine wx ?_;simp -dsimp[hb,jG];refine hQ2 _ _ _ ?_;simp -dsimp[jG];exact⟨lz rfl rfl (fun x hx=>(lI hp x hx).1),fun x hx=>(lI hp x hx).1⟩
end
end Go.Proofs.YtjogkbekekdkjaaGreatDoor
namespace Go.Proofs.YtjogkbekekdkjaaGreatDoor
section
open Go Go.AM
section
def isApp:Go.Op→Bool
 | .call c=>match c.callee with
  | .builtin .append=>true
  | _=>false
 | _=>false
def statP(ops:Array Oper)(E:List Nat)(tab:List (Nat×List Nat)):Bool :=
 stat1 ops&&mg ops E&&(pG ops.size).all fun i=>E.contains i||(match ops[i]? with
  | some o=>(bO o.op||isApp o.op)&&(cM o.op||(pG (E.length+1)).all fun c=>!eA (aJ [] ops.toList) E i c||c == bh E i||(dK tab i).contains c)
  | none=>true)
def oblP(T:AM.Ty)(ops:Array Oper)(C:V→List V→List B→(V→List B→Prop)→Prop)(E:List Nat)(tab:List (Nat×List Nat))(Hs:Nat→List B):List Oper→Nat→Nat→List V→List V→Prop
 | [],_,_,_,_=>True
 | _::_,_,_,_,[]=>False
 | o::rest,i,c,fr,v::vs =>
  (match ak ops fr o with
   | some true=>match aY o.op with
    | some (f,args)=>if E.contains i then C (aD fr f) (args.map (aD fr)) (Hs c) (fun r H'=>r=v∧H'=Hs (c+1))
     else cG (fun c'=>C (aD fr f) (args.map (aD fr)) (Hs c') (fun r H'=>r=v∧H'=Hs c')) (c::dK tab i)
    | none=>if E.contains i||cM o.op then True else cG (fun c'=>aop T o.op (aD fr) (Hs c')=some (v,Hs c')) (if bO o.op then dK tab i else c::dK tab i)
   | _=>True)∧oblP T ops C E tab Hs rest (i+1) (if E.contains i then c+1 else c) (ae fr o.dst v) vs
def DrawP(T:AM.Ty)(ops:Array Oper)(E:List Nat)(tab:List (Nat×List Nat))(cv:List (V×List B))(C:V→List V→List B→(V→List B→Prop)→Prop)(K:List V→List B→Prop)(fr:List V)(H:List B):Prop :=
 match AM.runT T ops E ops.toList 0 fr H cv with
 | none=>False
 | some (vs,hs,f)=>hs.length=E.length∧oblP T ops C E tab (fun c=>(H::hs)[c]?.getD []) ops.toList 0 0 fr vs∧K f ((H::hs)[E.length]?.getD [])
section
variable {P:Program} {T:AM.Ty}
theorem nG{ops:Array Oper}{C:V→List V→List B→(V→List B→Prop)→Prop}{E:List Nat}{tab:List (Nat×List Nat)}{Hs:Nat→List B}(hasc:fO E=true)
  (hst:∀i o,ops[i]?=some o→E.contains i=false→(bO o.op=true∨isApp o.op=true)∧(cM o.op=true∨∀c,c<E.length+1→eA (aJ [] ops.toList) E i c=true→c=bh E i∨c∈dK tab i)):
  ∀(l:List Oper) (i:Nat) (fr:List V) (H:List B) (cv:List (V×List B)) (vs:List V) (hs:List (List B)) (f:List V),l=ops.toList.drop i→AM.runT T ops E l i fr H cv=some (vs,hs,f)→(∀k,k≤hs.length→Hs (bh E i+k)=((H::hs)[k]?).getD [])→
   oblP T ops C E tab Hs l i (bh E i) fr vs→bW T ops C (aJ [] ops.toList) E Hs l i fr vs
 | [],i,fr,H,cv,vs,hs,f,hl,hr,hH,h=>trivial
 | o::rest,i,fr,H,cv,vs,hs,f,hl,hr,hH,h=>by
  have ho:ops[i]?=some o:=by
   have:=congrArg (fun l=>l[0]?) hl;simp at this;exact this.symm
  have hrest:rest=ops.toList.drop (i+1):=by
   have:=congrArg sU hl;simpa using this
  have hHi:Hs (bh E i)=H:=by have:=hH 0 (pv _);simpa using this
  simp only[AM.runT]at hr
  cases hw:ak ops fr o with
  | none=>rw[hw]at hr;cases hr
  | some b =>
  rw[hw]at hr
  cases b with
  | false =>
   simp only at hr;split at hr
   ·cases hr
   rename_i hE
   have hE:E.contains i=false:=by simpa using hE
   split at hr
   ·rename_i vs' hs' f' hr';cases hr;simp only[oblP,hw,hE,pQ,if_false]at h;simp only[bW,hw];refine⟨⟨by first | trivial | rfl,hE⟩,nG hasc hst rest (i+1) _ H cv vs' _ _ hrest hr' (fun k hk=>?_) ?_⟩
    ·rw[cF hasc,hE];simpa using hH k hk
    ·rw[cF hasc,hE];simpa using h.2
   ·cases hr
  | true =>
   simp only at hr
   have fin:∀(v:V) (H':List B) (cv':List (V×List B)),(if E.contains i then(match AM.runT T ops E rest (i+1) (ae fr o.dst v) H' cv' with
      | some (vs,hs,f)=>some (v::vs,H'::hs,f)
      | none=>none)
     else(match AM.runT T ops E rest (i+1) (ae fr o.dst v) H cv' with
      | some (vs,hs,f)=>some (v::vs,hs,f)
      | none=>none))=some (vs,hs,f)→
     ∃vs',vs=v::vs'∧(E.contains i=true→Hs (bh E i+1)=H')∧(oblP T ops C E tab Hs rest (i+1) (if E.contains i then bh E i+1 else bh E i) (ae fr o.dst v) vs'→bW T ops C (aJ [] ops.toList) E Hs rest (i+1) (ae fr o.dst v) vs'):=fun v H' cv' hq=>by
    cases hE:E.contains i with
    | true =>
     rw[hE]at hq;simp only[if_true]at hq;split at hq
     ·rename_i vs' hs' f' hr';cases hq;refine⟨vs',rfl,fun _=>?_,fun hh=>?_⟩
      ·have:=hH 1 (by simp);simpa using this
      ·refine nG hasc hst rest (i+1) _ H' cv' vs' hs' _ hrest hr' (fun k hk=>?_) ?_
       ·rw[cF hasc,hE];have:=hH (k+1) (by simp;omega);simp only[if_true,qg]at this ⊢;rw[show bh E i+1+k=bh E i+(k+1) by omega];exact this
       ·rw[cF hasc,hE];simpa using hh
     ·cases hq
    | false =>
     rw[hE]at hq;simp only[pQ,if_false]at hq;split at hq
     ·rename_i vs' hs' f' hr';cases hq;refine⟨vs',rfl,(fun h=>by cases h),fun hh=>?_⟩;refine nG hasc hst rest (i+1) _ H cv' vs' hs _ hrest hr' (fun k hk=>?_) ?_
      ·rw[cF hasc,hE];simpa using hH k hk
      ·rw[cF hasc,hE];simpa using hh
     ·cases hq
   cases hc:aY o.op with
   | some p =>
    obtain⟨g,args⟩:=p;rw[hc]at hr;simp only at hr;split at hr
    ·rename_i v H' cv';obtain⟨vs',rfl,hEH,hrec⟩:=fin v H' cv' hr;simp only[oblP,hw,hc]at h;simp only[bW,hw,hc];refine⟨?_,hrec h.2⟩
     cases hE:E.contains i with
     | true =>
      rw[hE]at h;simp only[if_true]at h ⊢;rw[mF hasc hE];exact h.1
     | false =>
      rw[hE]at h;simp only[pQ,if_false]at h ⊢;obtain⟨_,s2⟩:=hst i o ho hE
      have hns:cM o.op=false:=by
       cases hop:o.op<;>rw[hop]at hc<;>simp only[aY]at hc<;>first | (cases hc;done) | rfl
      rw[hns]at s2;have s2:=s2.resolve_left (by simp);refine allC_of (fun c hcm=>?_);split
      ·rename_i hp
       rcases s2 c (by simpa using hcm) hp with rfl | hm
       ·exact dp h.1 _ (by simp)
       ·exact dp h.1 _ (by simp[hm])
      ·trivial
    ·cases hr
   | none =>
    rw[hc]at hr;simp only at hr
    cases hop:aop T o.op (aD fr) H with
    | none=>rw[hop]at hr;cases hr
    | some q =>
     obtain⟨v,H'⟩:=q;rw[hop]at hr;simp only at hr;obtain⟨vs',rfl,hEH,hrec⟩:=fin v H' cv hr;simp only[oblP,hw,hc]at h;simp only[bW,hw,hc];refine⟨?_,hrec h.2⟩
     cases hE:E.contains i with
     | true =>
      simp only[if_true];rw[mF hasc hE,hHi,hEH hE];exact hop
     | false =>
      rw[hE]at h;simp only[pQ,if_false,qX]at h ⊢;obtain⟨s1,s2⟩:=hst i o ho hE;refine allC_of (fun c hcm=>?_);split
      ·rename_i hp
       cases hsc:cM o.op with
       | true=>exact mQ hsc hop _
       | false =>
        rw[hsc]at h s2;simp only[pQ,if_false]at h
        cases hso:bO o.op with
        | true =>
         rw[hso,if_pos rfl]at h;have hHH:=dw hso hop;subst hHH
         rcases(s2.resolve_left (by simp)) c (by simpa using hcm) hp with rfl | hm
         ·rw[hHi];exact hop
         ·exact dp h.1 _ hm
        | false =>
         rw[hso,if_neg (by simp)]at h
         rcases(s2.resolve_left (by simp)) c (by simpa using hcm) hp with rfl | hm
         ·exact dp h.1 _ (by simp)
         ·exact dp h.1 _ (by simp[hm])
      ·trivial
where
 allC_of {p:Nat→Prop} : ∀{l:List Nat},(∀c∈l,p c)→cG p l
  | [],_=>trivial
  | c::l,h=>⟨h c (by simp),allC_of (fun d hd=>h d (by simp[hd]))⟩
theorem nU(hT:TOk P T)(hm:P.follows .mixedOrders=true){id:Nat}{ops:Array Oper}{Q:Exit→List V→List B→Prop}{fr:List V}{H:List B}(E:List Nat)(tab:List (Nat×List Nat))(cv:List (V×List B))(hst:statP ops E tab=true)
  (h:∀(C:V→List V→List B→(V→List B→Prop)→Prop) (K:List V→List B→Prop),(∀fv args H K',aI P fv args H K'→C fv args H K')→(∀fr H,Q .normal fr H→K fr H)→DrawP T ops E tab cv C K fr H):W P (.region id ops true) Q fr H:=by
 refine W_draw hT hm E cv fun C K hC hK=>?_
 have h1:=h C K hC hK;unfold DrawP at h1;unfold dX;simp only[statP,pC]at hst;obtain⟨⟨st1,st2⟩,st3⟩:=hst;split at h1
 ·exact h1.elim
 ·rename_i vs hs f hr;rw[hr];obtain⟨a1,a2,a3⟩:=h1
  have hasc:fO E=true:=by
   unfold mg at st2;simp only[pC]at st2;exact st2.1.1
  have h00:bh E 0=0:=by cases E<;>simp[bh]
  refine⟨⟨nD st1 st2,a1⟩,?_,a3⟩;refine nG hasc (fun i o ho hE=>?_) ops.toList 0 fr H cv vs hs f (by simp) hr (fun k hk=>by rw[h00,qM]) (by rw[h00];exact a2);have hil:i<ops.size:=(Array.getElem?_eq_some_iff.1 ho).1;have:=List.all_eq_true.1 st3 i (by simpa using hil);rw[hE,ho,qX]at this;simp only[pC,pu]at this;refine⟨this.1,this.2.imp (fun h=>h) (fun hall c hc hp=>?_)⟩;have h3:=List.all_eq_true.1 hall c (by simpa using hc);simp only[pu,pg,beq_iff_eq]at h3
  rcases h3 with(h3 | h3) | h3
  ·rw[hp]at h3;cases h3
  ·exact .inl h3
  ·exact .inr (List.contains_iff_mem.1 h3)
end
attribute [simp] DrawP oblP
end
theorem nh{s:AM.St}{cs ds:List V}{u:Value}(h:Rel s (.agg cs) u)(hl:LfL cs ds):Rel s (.agg ds) u:=by
 cases h with
 | agg _ us h1 h2 h3 =>
  have hlen:=hl.len;refine .agg ds us (by omega) (fun d hd=>?_) (fun i d u hd hu=>?_)
  ·obtain⟨i,hi⟩:=List.mem_iff_getElem?.1 hd;have hc:cs[i]?=some (cs[i]'(by have:=aB hi;omega)):=ov _;exact lf_one (hl.at_ i _ d hc hi) (h2 _ (oz hc))
  ·have hc:cs[i]?=some (cs[i]'(by have:=aB hd;omega)):=ov _;exact mU (h3 i _ u hc hu) (hl.at_ i _ d hc hd)
theorem conP_lf{P:Program}{f:FuncId}{args:List V}{v v':V}(h:aE P f args fun r=>r=v)(hr:∀(s:AM.St) u,Rel s v u→Rel s v' u)(hp:AM.Pure v'):aE P f args fun r=>r=v':=by
 refine⟨h.1,fun F w vals hZ hF hsz hrel=>(h.2 F w vals hZ hF hsz hrel).mono fun e w' ⟨u,r,a1,a2,a3,a4,a5⟩=>?_⟩;subst a5;exact⟨u,v',a1,hp,hr _ u a3,a4,rfl⟩
theorem cap32l(n:Nat)(h:n≤1000000000):n≤9223372036854775807∧n*32≤140737488355328:=by omega
theorem cp03(r:Rw)(hl:r.vals.length≤1000000):aE Tryz.prog 111 [aT r] fun x=>x=aT r:=by
 by_cases h0:r.vals=[]
 ·refine conP_lf (v:=.agg [.int .i64 r.id,.lst 3 true []]) ?_ (fun s u h=>?_) (by simp)
  ·refine bf (aK (tkf 78) Tryz.func111 rfl rfl ?_);refine W_x (tkf 78) mixed ?_;simp -dsimp[Tryz.f111,ou,aT,LV,bo];refine aR (nU (tkf 78) mixed [7] [] [] (by kernel_rfl) fun C K hC hK=>?_);simp -implicitDefEqProofs [h0,bo];refine hK _ _ ?_;simp -dsimp[bo]
  ·have:=nh (ds:=[.int .i64 r.id,.lst 3 false []]) h (by simp[LfL,lfB]);simpa[aT,LV,h0] using this
 ·refine bf (aK (tkf 78) Tryz.func111 rfl rfl ?_);refine W_x (tkf 78) mixed ?_;simp -dsimp[Tryz.f111,ou,aT,LV,bo];refine aR (nU (tkf 78) mixed [7] [] [] (by kernel_rfl) fun C K hC hK=>?_);simp -implicitDefEqProofs [h0,cap32l r.vals.length (by omega),bo];refine hK _ _ ?_;simp -dsimp[bo];rfl
theorem cap16l(n:Nat)(h:n≤1000000000):n≤9223372036854775807∧n*16≤140737488355328:=by omega
theorem with03(t:Tb)(rs:List Rw)(f g h:Bool)(ha:t.attrs.length≤1000000)(hr:rs.length≤1000000)(hv:∀r∈rs,r.vals.length≤1000000):aE Tryz.prog 67 [aF f g t,LR h rs] fun x=>x=aF false false ⟨t.name,t.attrs,rs⟩:=by
 have hne:t.attrs=[]∨¬t.attrs=[]:=by by_cases h:t.attrs=[];exact .inl h;exact .inr h
 rcases hne with hne | hne
 case' inl =>
  refine bf (aK (tkf 29) Tryz.func67 rfl rfl ?_);refine W_x (tkf 29) mixed ?_;simp -dsimp[Tryz.f67,ou,aF,LS,LR,bo];refine aR (nU (tkf 29) mixed [7,8] [(1,[1]),(2,[1]),(4,[1]),(5,[1])] [] (by kernel_rfl) fun C K hC hK=>?_);simp -implicitDefEqProofs [hne,bo];refine hK _ _ ?_;simp -dsimp[bo]
 case' inr =>
  refine bf (aK (tkf 29) Tryz.func67 rfl rfl ?_);refine W_x (tkf 29) mixed ?_;simp -dsimp[Tryz.f67,ou,aF,LS,LR,bo];refine aR (nU (tkf 29) mixed [7,8] [(1,[1]),(2,[1]),(4,[1]),(5,[1])] [] (by kernel_rfl) fun C K hC hK=>?_);simp -implicitDefEqProofs [hne,cap16l t.attrs.length (by omega),bo];refine hK _ _ ?_;simp -dsimp[bo]
 all_goals
  refine aR (W_lf 2 _ [.str t.name,.lst 1 false (t.attrs.map V.str),.nilS] rfl (nu _) (by simp[LfL,lfB,hne]) (dV 80 2 [] 2 [2] rfl (lfL_own _ _) (by simp) (W_loopM 30 0x3ffffa40 (by simp[mB]<;>rfl) (σ:=Nat) (fun i=>i≤rs.length) (fun i=>rs.length-i) (fun i=>[(6,.int .i64 i)]) (fun i=>[B.cells [.str t.name,.lst 1 f (t.attrs.map V.str),.lst 2 g (t.rows.map aT)],B.cells [.str pE,.nilS,.nilS],B.cells [.str t.name,.lst 1 false (t.attrs.map V.str),.buf 3 0 i i],B.buf 80 2 ((rs.take i).map aT) false]) 0 (by omega) (by simp[hne]) (by simp[hne]) (by simp) ?_)));intro i hi N Q hN hQ
  have hli:(rs.take i).length=i:=by simp;omega
  by_cases hb:i<rs.length
  ·have hst:rs.take (i+1)=rs.take i++[rs[i]]:=pJ hb;have hc:=cp03 rs[i] (hv _ (ow hb));obtain⟨l,hl⟩:∃l,l=rs.take i:=⟨_,rfl⟩;rw[←hl]at hst hli ⊢;refine W_x (tkf 29) mixed ?_;simp -dsimp[hb,bo];refine aR (ao (tkf 29) mixed [8,10] [] [(aT rs[i],[])] (by kernel_rfl) fun C K hC hK=>?_);simp -implicitDefEqProofs [hb,aT,LV,hli,cap32 i (by omega),bo];refine⟨hC _ _ _ _ (aW hc (by simp)),hK _ _ ?_⟩;simp -dsimp[aa i (by omega),bo];refine hN (i+1) _ _ (by omega) (by omega) ?_ ⟨[],?_⟩ ?_ ?_<;>simp[or_imp,forall_and,L1,au,hst,aT,LV]
  ·obtain rfl:i=rs.length:=by omega
   rw[pt];refine eI 3 [] 2 [2] rfl rfl (by simp) (by simp) ?_;refine W_x (tkf 29) mixed ?_;simp -dsimp[hb,bo];refine hQ _ _ _ ?_;simp -dsimp[bo];simp only[aF,LS,LR]
end
end Go.Proofs.YtjogkbekekdkjaaGreatDoor
section

end
