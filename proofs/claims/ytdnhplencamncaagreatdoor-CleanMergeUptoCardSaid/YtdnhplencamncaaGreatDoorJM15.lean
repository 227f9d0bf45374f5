/- JM15: own texts of this seat, joined and shortened by pack4.py: Mp, GrH, GrE, CatE, Wd, T11, T12, PF, Ve, PV, PA, PD, ClV, ClT, GrR. -/
import Derived.Test.YtdnhplencamncaaGreatDoorJM12
import Derived.WalkKit
import Derived.Lib.Walk
import Derived.Lib.SliceRun
import Derived.Lib.AppendZerosOnto
import Derived.OwnWalk
import Derived.WalkSpells
import Derived.WalkLawsBesides
import Derived.Lib.Hide
import Derived.Maps.AppendAt
set_option linter.unusedVariables false
set_option linter.unusedSimpArgs false
set_option maxRecDepth 100000
set_option maxHeartbeats 64000000
open Array renaming size_append→qN,getElem?_push_size→qR
open Bool renaming and_eq_true→oP,false_eq_true→oZ,true_and→pE,false_and→pF,or_eq_true→pW,not_eq_true'→pZ,false_or→pr,eq_iff_iff→qS
open ByteArray renaming empty→oF
open List renaming replicate→oE,getElem?_eq_getElem→oG,getElem_mem→oI,drop_eq_getElem_cons→oK,range→oM,take_succ_eq_append_getElem→oN,mem_cons→oR,length_append→oT,append_nil→oU,drop_of_length_le→oV,length_map→oW,take_length→oY,map_append→oe,length_cons→og,map_congr_left→oo,mem_cons_self→ou,mem_cons_of_mem→ow,drop_zero→pC,nil_append→pH,getElem?_cons_succ→pL,length_set→pN,mem_of_mem_take→pQ,all_eq_true→pR,take_append_drop→pc,length_filter_le→pf,cons_append→pg,getD_eq_getElem?_getD→pj,mem_or_eq_of_mem_set→pu,mem_append→qB,filter_append→qC,mem_filter→qF,getElem?_cons_zero→qI,set_getElem_self→qQ,flatMap_cons→qh,flatten_append→qj,map_map→qu,filter_cons→rE,flatMap_append→rH,set_set→rV,map_id→rt,tail→rx
open Nat renaming le_refl→oJ,lt_of_lt_of_le→om,add_mul→ov,zero_add→pI,lt_or_ge→pS,le_trans→pY,zero_le→qV,add_sub_cancel'→qb
open Option renaming getD_some→qG
namespace Go.Proofs.YtdnhplencamncaaGreatDoor
section
open Go Go.AM
def mF(enc:Int→V)(us:List Int):List (V×V):=us.map fun x=>(V.int .i64 x,enc x)
theorem mF_snoc(enc:Int→V)(us:List Int)(x:Int):mF enc (us++[x])=mF enc us++[(V.int .i64 x,enc x)]:=by simp[mF]
theorem nO(enc:Int→V)(x u:Int)(us:List Int)(i:Nat):cK (.int .i64 x) (mF enc (u::us)) i=if(x == u)=true then some (i,enc u) else cK (.int .i64 x) (mF enc us) (i+1):=rfl
theorem findF_no{enc:Int→V}{x:Int} : ∀{us:List Int} {i:Nat},cP us x=false→cK (.int .i64 x) (mF enc us) i=none
 | [],_,_=>rfl
 | u::us,i,h=>by
  rw[eQ,Bool.or_eq_false_iff]at h;rw[nO,h.1,if_neg (by simp)];exact findF_no h.2
theorem findF_yes{enc:Int→V}{x:Int} : ∀{us:List Int} {i:Nat},cP us x=true→∃j,cK (.int .i64 x) (mF enc us) i=some (i+j,enc x)∧us[j]?=some x
 | [],_,h=>by simp[cP]at h
 | u::us,i,h=>by
  rw[nO];cases hq:x == u
  ·rw[eQ,hq,pr]at h;obtain⟨j,h1,h2⟩:=findF_yes (enc:=enc) (i:=i+1) h;exact⟨j+1,by rw[if_neg (by simp)];rw[show i+(j+1)=i+1+j by omega];exact h1,by simpa using h2⟩
  ·exact⟨0,by simp[beq_iff_eq.1 hq],by simp[beq_iff_eq.1 hq]⟩
theorem rbB_mF{enc:Int→V}(he:∀n x,rb n (enc x))(n:Nat)(kk:KK)(us:List Int):rbB n (.map kk (mF enc us))↔True:=by
 refine⟨fun _=>trivial,fun _ p hp=>?_⟩;obtain⟨x,_,rfl⟩:=List.mem_map.1 hp;exact⟨trivial,he n x⟩
def kG(us:List Int)(k:Int):List Int:=if cP us k=true then us else us++[k]
theorem addK_yes{us:List Int}{k:Int}(h:cP us k=true):kG us k=us:=by unfold kG;rw[if_pos h]
theorem addK_no{us:List Int}{k:Int}(h:cP us k=false):kG us k=us++[k]:=by unfold kG;rw[if_neg (by rw[h];simp)]
theorem bF{P:Program}{f:FuncId}{args:List V}{H:List B}{K K':V→List B→Prop}(h:aU P f args H K)(hk:∀r H',K r H'→K' r H'):aL P (.fn f []) args H K':=by
 simp only[aL,oU];exact h.mono hk
end
end Go.Proofs.YtdnhplencamncaaGreatDoor
namespace Go.Proofs.YtdnhplencamncaaGreatDoor
section
open Go Go.AM Go.RowKit Go.Lib
theorem fY{f:FuncId}{args:List V}{e z:Nat}(hE:AM.Enters Tryz.prog f)(h:∀(F:Nat→Prop) (w:World) (vals:Array Value),vals.size=args.length→(∀(i:Nat) a u,args[i]?=some a→vals[i]?=some u→Rel (AM.base F w) a u)→
  Calls Tryz.prog f vals w fun e' w'=>∃v,e' = .returned v∧Below w.heap.size w w'∧(v = .slice none 0 0∨∃g c cur,v = .slice (some ⟨g,0,none⟩) 0 c∧w.heap.size≤g∧w'.heap[g]?=some (.cells cur e (0,0))∧c≠0∧c≤maxLen∧cur.size=c*z)):dr Tryz.prog f args fun e' z' ys=>e'=e∧z'=z∧ys=[]:=by
 refine⟨hE,fun F w vals hZ hF hsz hrel=>(h F w vals hsz hrel).mono fun e' w' ⟨v,he,hb,hv⟩=>?_⟩
 rcases hv with hv | ⟨g,c,cur,hv,hg,hc,hn,hm,hs⟩
 ·have hF':∀b,F b→b<w'.heap.size:=fun b hb'=>om (hF b hb') hb.size
  obtain⟨p1,_⟩:=lD (AM.base_good hF') (w:=w') 0 e z false rfl rfl rfl (oJ _) (fun _ _=>rfl);refine⟨v,e,z,[],none,0,0,he,hv,fun h=>absurd rfl h,by simp,fun h=>absurd rfl h,?_,hb,rfl,rfl,rfl⟩;refine⟨hF',fun k hk=>absurd (hk.2 e z [] false (by have:=hk.1;simp at this;subst this;rfl)) (by simp),fun j k hj hk _=>by have:=hj.1;have:=hk.1;simp at *;omega,fun k bl hk=>?_⟩
  have hk0:k=0:=by have:=aB hk;simp at this;omega
  subst hk0;simp at hk;subst hk;exact⟨#[],fun h=>absurd rfl h,by simp,by simp,by simp[maxLen],(fun x hx=>by cases hx),(fun i x j c u hx=>by simp at hx)⟩
 ·have hF':∀b,F b→b<w'.heap.size:=fun b hb'=>om (hF b hb') hb.size
  refine⟨v,e,z,[],some ⟨g,0,none⟩,g,c,he,hv,fun _=>rfl,by simp,fun _=>hg,?_,hb,rfl,rfl,rfl⟩;refine⟨hF',fun k hk=>⟨(Array.getElem?_eq_some_iff.1 hc).1,fun hf=>by have:=hF g hf;omega⟩,fun j k hj hk _=>by have:=hj.1;have:=hk.1;simp at *;omega,fun k bl hk=>?_⟩
  have hk0:k=0:=by have:=aB hk;simp at this;omega
  subst hk0;simp at hk;subst hk;exact⟨cur,fun _=>hc,by simpa using hs,by simp,hm,(fun x hx=>by cases hx),(fun i x j c u hx=>by simp at hx)⟩
theorem infoG_E:(Tryz.prog.info? 129).map (fun i=>(i.zero,i.size,i.bytes))=some (some (.agg #[.int .i64 0,.int .i64 0]),2,16):=by kernel_rfl
theorem growPos_E(n:Nat)(w:World)(h0:0<n)(hn:n≤1000000):Calls Tryz.prog 171 #[.slice none 0 0,.int .i64 n] w fun e w' =>
   e = .returned (.slice (some ⟨w.heap.size,0,none⟩) 0 (grownCap w n 0 129))∧w'=w.drew.alloc (.cells (Builtin.zeroCells (.agg #[.int .i64 0,.int .i64 0]:Value).cells n++Builtin.zeroCells (.agg #[.int .i64 0,.int .i64 0]:Value).cells (grownCap w n 0 129-n)) 129):=by
 obtain⟨i0,hi0,hz0,hs0,hby⟩:=info_parts infoG_E
 have h1:¬((n:Int)<0):=by omega
 have hz25:∀w,(Go.sizeOf 129).run Tryz.prog w = .ok 2 w:=fun w=>by simp[Go.sizeOf,typeInfo,hi0,hs0]
 have hold:(Builtin.firstCells i0.size 0 (.slice none 0 0)).run Tryz.prog w.drew = .ok ([]:List Value).toArray w.drew:=run_firstCells_none w.drew i0.size 0 0 0
 have hbig:(0+n)*i0.bytes≤140737488355328:=by rw[hby];omega
 have hrz:∀ty,(Builtin.append_ #[126,3] ty #[.slice none 0 0,.int .i64 (n:Int)]).run Tryz.prog w =
   .ok (.slice (some ⟨w.heap.size,0,none⟩) n (grownCap w n 0 129)) (w.drew.alloc (.cells (Builtin.zeroCells (.agg #[.int .i64 0,.int .i64 0]:Value).cells n++Builtin.zeroCells (.agg #[.int .i64 0,.int .i64 0]:Value).cells (grownCap w n 0 129-n)) 129)):=fun ty=>by
  have h:=Lib.run_append_grow_zeros (P:=Tryz.prog) w 126 3 ty 129 i0 _ .i64 .i64 Tryz.underlying126 Tryz.underlying3 hi0 hz0 none 0 0 [] hold n h0 (by omega) (by omega) (by omega)
   (by rw[hby];omega)
   (growslice_fits (by omega) hbig)
  simpa using h
 have hGn:n≤grownCap w n 0 129:=grownCap_ge w _ _ _;obtain⟨G,hG⟩:∃G,G=grownCap w n 0 129:=⟨_,rfl⟩;rw[←hG]at hrz hGn ⊢
 have hG63:G≤9223372036854775807:=by
  have:=grownCap_le_maxLen w n 0 129 (by unfold maxLen;omega);rw[←hG]at this;unfold maxLen at this;omega
 have h2:RowKit.wrap64 ((0:Int)-0)=0:=by unfold RowKit.wrap64;omega
 have h3:RowKit.wrap64 ((n:Int)-0)=(n:Int):=by unfold RowKit.wrap64;omega
 have h4:(n:Int)> 0:=by omega
 clear hold hG hbig
 go_enter Tryz.func171,Tryz.ntmps171
 go_wp2_with (at_builtin;refine Lib.wpList_append_run _ rfl _ _ _ _ rfl _ _ rfl rfl _ _ (hrz _) ?_)
 all_goals (go_ret;exact⟨rfl,rfl⟩)
theorem growNil_E(w:World):Calls Tryz.prog 171 #[.slice none 0 0,.int .i64 0] w fun e w'=>e = .returned (.slice none 0 0)∧w'=w:=by
 go_enter Tryz.func171,Tryz.ntmps171
 go_wp2
 go_ret
 exact⟨rfl,rfl⟩
theorem grow_con_E(n:Nat)(hn:n≤1000000):dr Tryz.prog 171 [.nilS,.int .i64 n] fun e z ys=>e=129∧z=2∧ys=[]:=by
 refine fY ⟨Tryz.f171,Tryz.func171,rfl,rfl⟩ (fun F w vals hsz hrel=>?_)
 obtain⟨u0,u1,rfl⟩:∃u0 u1,vals = #[u0,u1]:=by
  obtain⟨l⟩:=vals
  match l,hsz with
  | [a,b],_=>exact⟨a,b,rfl⟩
 have r0:=hrel 0 _ u0 rfl rfl;have r1:=hrel 1 _ u1 rfl rfl;cases r0;cases r1;by_cases h0:n=0
 ·subst h0
  exact(growNil_E w).mono fun e w' ⟨h1,h2⟩=>⟨_,h1,by subst h2;exact Below.refl _ _,.inl rfl⟩
 ·refine(growPos_E n w (by omega) hn).mono fun e w' ⟨h1,h2⟩=>?_
  subst h2;have hge:=grownCap_ge w n 0 129;refine⟨_,h1,((Below.refl _ _).drew).alloc (oJ _) _,.inr ⟨w.heap.size,grownCap w n 0 129,Builtin.zeroCells (.agg #[.int .i64 0,.int .i64 0]:Value).cells n++Builtin.zeroCells (.agg #[.int .i64 0,.int .i64 0]:Value).cells (grownCap w n 0 129-n),rfl,oJ _,?_,by omega,grownCap_le_maxLen w n 0 129 (by unfold maxLen;omega),?_⟩⟩
  ·exact qR (xs:=w.heap)
  ·rw[qN,size_zeroCells,size_zeroCells,←ov,qb hge];rfl
end
end Go.Proofs.YtdnhplencamncaaGreatDoor
namespace Go.Proofs.YtdnhplencamncaaGreatDoor
section
open Go Go.AM Go.RowKit
structure FlVE where
 f:Bool
 xs:List V
def eD(l:FlVE):V:=.lst 2 l.f l.xs
def cN(ls:List FlVE):List V:=(ls.map (·.xs)).flatten
theorem nr(ls:List FlVE)(i:Nat)(h:i<ls.length):cN (ls.take (i+1))=cN (ls.take i)++ls[i].xs:=by
 unfold cN;rw[oN h,oe,qj];simp
theorem catL_leE(ls:List FlVE)(i:Nat):(cN (ls.take i)).length≤(cN ls).length:=by
 conv=>rhs;rw[←pc i ls]
 unfold cN;rw[oe,qj,oT];omega
theorem jF{ls:List FlVE}(hp:∀l∈ls,∀x∈l.xs,AM.Pure x∧cT x=true∧x.cells.length=2):∀x∈cN ls,AM.Pure x∧cT x=true:=by
 intro x hx;obtain⟨l,hl,h⟩:=List.mem_flatten.1 hx;obtain⟨y,hy,rfl⟩:=List.mem_map.1 hl;exact⟨(hp y hy x h).1,(hp y hy x h).2.1⟩
theorem catW_E(n:Nat)(h:n≤1000000):n≤9223372036854775807∧n*16≤140737488355328:=by omega
theorem concat_E(ls:List FlVE)(g:Bool)(hp:∀l∈ls,∀x∈l.xs,AM.Pure x∧cT x=true∧x.cells.length=2)(hl:ls.length≤1000000)(hs:(cN ls).length≤1000000):aJ Tryz.prog 99 [.lst 1 g (ls.map eD)] fun r=>r = .lst 2 false (cN ls):=by
 have htl:=fun i=>catL_leE ls i
 have hpF:∀l∈ls,AM.Pure (eD l):=fun l hl=>.lst _ _ _ (fun x hx=>(hp l hl x hx).1)
 refine sPx Tryz.func99 rfl rfl ?_;simp -dsimp[Tryz.f99,oE,eD];refine aI (W_loopM 23 0x7ff828 (by simp[mB]<;>rfl) (σ:=Nat) (fun i=>i≤ls.length) (fun i=>ls.length-i) (fun i=>[(11,.int .i64 i),(3,.int .i64 ((cN (ls.take i)).length:Nat))]) (fun _=>[]) 0 (by omega) (by simp[cN]) rfl (by simp) ?_);intro i hi N Q hN hQ;by_cases hb:i<ls.length
 ·have hsu:=nr ls i hb;have h1:=htl i;have h2:=htl (i+1);rw[hsu,oT]at h2;obtain⟨c,hc⟩:∃c,c=(cN (ls.take i)).length:=⟨_,rfl⟩;rw[←hc]at h1 h2
  have hlx:(cN (ls.take (i+1))).length=c+ls[i].xs.length:=by rw[hsu,oT,hc]
  obtain⟨x,hx⟩:∃x,x=ls[i]:=⟨_,rfl⟩;rw[←hx]at h2 hlx;have hx':=hx.symm;obtain⟨d,hd⟩:∃d,d=c+x.xs.length:=⟨_,rfl⟩
  have hw:IntKind.i64.wrap ((c:Int)+(x.xs.length:Int))=(d:Int):=by rw[wrap64 (by omega) (by omega),hd];push_cast;rfl
  refine wx ?_;simp -dsimp[hb,hx',hw,show ¬(d:Int)<0 by omega,aP i (by omega),←hc,eD];refine hN (i+1) _ _ (by omega) (by omega) (by simp[hlx,hd]) ⟨[],rfl⟩ (by simp;exact hpF) (by simp)
 ·obtain rfl:i=ls.length:=by omega
  rw[oY];have hg:=fb (H:=[]) (grow_con_E (cN ls).length hs) (by simp);refine wx ?_;simp -dsimp[hb,eD];refine hQ _ _ _ ?_;simp -dsimp[eD];refine hg.mono ?_;rintro r H' ⟨e,z,xs,rfl,rfl,_,rfl,rfl,rfl⟩;simp -dsimp[eD];refine aI (W_loopM 35 0x7f8000140 (by simp[mB]<;>rfl) (σ:=Nat) (fun i=>i≤ls.length) (fun i=>ls.length-i) (fun i=>[(27,.int .i64 i),(6,.buf 0 0 (cN (ls.take i)).length (cN (ls.take i)).length)]) (fun i=>[B.buf 129 2 (cN (ls.take i)) false]) 0 (by omega) (by simp[cN]) (by simp[cN]) (by simp) ?_);intro i hi N2 Q2 hN2 hQ2;by_cases hb:i<ls.length
  ·have hsu:=nr ls i hb;have h2:=htl (i+1);have hpi:=hp ls[i] (oI hb);have hpc:=jF (ls:=ls.take (i+1)) (fun l hl=>hp l (pQ hl));obtain⟨x,hx⟩:∃x,x=ls[i]:=⟨_,rfl⟩;rw[←hx]at hsu hpi;have hx':=hx.symm;rw[hsu]at h2 hpc;obtain⟨xs,hxs⟩:∃xs,xs=x.xs:=⟨_,rfl⟩;have hxs':=hxs.symm;rw[←hxs]at hsu h2 hpc hpi;by_cases h0:xs=[]
   ·rw[h0,oU]at hsu;refine wx ?_;simp -dsimp[hb,hx',hxs',h0,aP i (by omega),eD];refine hN2 (i+1) _ _ (by omega) (by omega) (by simp[hsu]) ⟨[],by simp[hsu]⟩ (by simp;exact hpF) (by rw[h0,oU]at hpc;intro bl hbl;rcases List.mem_cons.1 hbl with rfl | hbl;exact(rbB_buf1 (by rw[hsu];exact hpc)).2 trivial;cases hbl)
   ·obtain⟨c,hc⟩:∃c,c=cN (ls.take i):=⟨_,rfl⟩;rw[←hc]at hsu h2 hpc;rw[oT]at h2;refine wx ?_;simp -dsimp[hb,hx',hxs',h0,aP i (by omega),←hc,catW_E (c.length+xs.length) (by omega),eD];refine hN2 (i+1) _ _ (by omega) (by omega) (by simp[hsu]) ⟨[],by simp[hsu]⟩ (by simp;exact hpF) (by intro bl hbl;rcases List.mem_cons.1 hbl with rfl | hbl;exact(rbB_buf1 (by rw[hsu];exact hpc)).2 trivial;cases hbl)
  ·obtain rfl:i=ls.length:=by omega
   rw[oY];refine wx ?_;simp -dsimp[hb,eD];refine hQ2 _ _ _ ?_;simp -dsimp[eD];exact⟨gD rfl rfl (fun x hx=>(jF hp x hx).1),fun x hx=>(jF hp x hx).1⟩
end
end Go.Proofs.YtdnhplencamncaaGreatDoor
namespace Go.Proofs.YtdnhplencamncaaGreatDoor
section
open Go Go.AM
section
def isApp:Go.Op→Bool
 | .call c=>match c.callee with
  | .builtin .append=>true
  | _=>false
 | _=>false
def statP(ops:Array Oper)(E:List Nat)(tab:List (Nat×List Nat)):Bool :=
 stat1 ops&&jS ops E&&(oM ops.size).all fun i=>E.contains i||(match ops[i]? with
  | some o=>(bN o.op||isApp o.op)&&(cZ o.op||(oM (E.length+1)).all fun c=>!fm (aM [] ops.toList) E i c||c == bp E i||(fK tab i).contains c)
  | none=>true)
def oblP(T:AM.Ty)(ops:Array Oper)(C:V→List V→List B→(V→List B→Prop)→Prop)(E:List Nat)(tab:List (Nat×List Nat))(Hs:Nat→List B):List Oper→Nat→Nat→List V→List V→Prop
 | [],_,_,_,_=>True
 | _::_,_,_,_,[]=>False
 | o::rest,i,c,fr,v::vs =>
  (match bA ops fr o with
   | some true=>match aj o.op with
    | some (f,args)=>if E.contains i then C (aO fr f) (args.map (aO fr)) (Hs c) (fun r H'=>r=v∧H'=Hs (c+1))
     else dq (fun c'=>C (aO fr f) (args.map (aO fr)) (Hs c') (fun r H'=>r=v∧H'=Hs c')) (c::fK tab i)
    | none=>if E.contains i||cZ o.op then True else dq (fun c'=>aop T o.op (aO fr) (Hs c')=some (v,Hs c')) (if bN o.op then fK tab i else c::fK tab i)
   | _=>True)∧oblP T ops C E tab Hs rest (i+1) (if E.contains i then c+1 else c) (ak fr o.dst v) vs
def DrawP(T:AM.Ty)(ops:Array Oper)(E:List Nat)(tab:List (Nat×List Nat))(cv:List (V×List B))(C:V→List V→List B→(V→List B→Prop)→Prop)(K:List V→List B→Prop)(fr:List V)(H:List B):Prop :=
 match AM.runT T ops E ops.toList 0 fr H cv with
 | none=>False
 | some (vs,hs,f)=>hs.length=E.length∧oblP T ops C E tab (fun c=>(H::hs)[c]?.getD []) ops.toList 0 0 fr vs∧K f ((H::hs)[E.length]?.getD [])
section
variable {P:Program} {T:AM.Ty}
theorem lj{ops:Array Oper}{C:V→List V→List B→(V→List B→Prop)→Prop}{E:List Nat}{tab:List (Nat×List Nat)}{Hs:Nat→List B}(hasc:jH E=true)
  (hst:∀i o,ops[i]?=some o→E.contains i=false→(bN o.op=true∨isApp o.op=true)∧(cZ o.op=true∨∀c,c<E.length+1→fm (aM [] ops.toList) E i c=true→c=bp E i∨c∈fK tab i)):
  ∀(l:List Oper) (i:Nat) (fr:List V) (H:List B) (cv:List (V×List B)) (vs:List V) (hs:List (List B)) (f:List V),l=ops.toList.drop i→AM.runT T ops E l i fr H cv=some (vs,hs,f)→(∀k,k≤hs.length→Hs (bp E i+k)=((H::hs)[k]?).getD [])→
   oblP T ops C E tab Hs l i (bp E i) fr vs→bU T ops C (aM [] ops.toList) E Hs l i fr vs
 | [],i,fr,H,cv,vs,hs,f,hl,hr,hH,h=>trivial
 | o::rest,i,fr,H,cv,vs,hs,f,hl,hr,hH,h=>by
  have ho:ops[i]?=some o:=by
   have:=congrArg (fun l=>l[0]?) hl;simp at this;exact this.symm
  have hrest:rest=ops.toList.drop (i+1):=by
   have:=congrArg rx hl;simpa using this
  have hHi:Hs (bp E i)=H:=by have:=hH 0 (qV _);simpa using this
  simp only[AM.runT]at hr
  cases hw:bA ops fr o with
  | none=>rw[hw]at hr;cases hr
  | some b =>
  rw[hw]at hr
  cases b with
  | false =>
   simp only at hr;split at hr
   ·cases hr
   rename_i hE
   have hE:E.contains i=false:=by simpa using hE
   split at hr
   ·rename_i vs' hs' f' hr';cases hr;simp only[oblP,hw,hE,oZ,if_false]at h;simp only[bU,hw];refine⟨⟨by first | trivial | rfl,hE⟩,lj hasc hst rest (i+1) _ H cv vs' _ _ hrest hr' (fun k hk=>?_) ?_⟩
    ·rw[bc hasc,hE];simpa using hH k hk
    ·rw[bc hasc,hE];simpa using h.2
   ·cases hr
  | true =>
   simp only at hr
   have fin:∀(v:V) (H':List B) (cv':List (V×List B)),(if E.contains i then(match AM.runT T ops E rest (i+1) (ak fr o.dst v) H' cv' with
      | some (vs,hs,f)=>some (v::vs,H'::hs,f)
      | none=>none)
     else(match AM.runT T ops E rest (i+1) (ak fr o.dst v) H cv' with
      | some (vs,hs,f)=>some (v::vs,hs,f)
      | none=>none))=some (vs,hs,f)→
     ∃vs',vs=v::vs'∧(E.contains i=true→Hs (bp E i+1)=H')∧(oblP T ops C E tab Hs rest (i+1) (if E.contains i then bp E i+1 else bp E i) (ak fr o.dst v) vs'→bU T ops C (aM [] ops.toList) E Hs rest (i+1) (ak fr o.dst v) vs'):=fun v H' cv' hq=>by
    cases hE:E.contains i with
    | true =>
     rw[hE]at hq;simp only[if_true]at hq;split at hq
     ·rename_i vs' hs' f' hr';cases hq;refine⟨vs',rfl,fun _=>?_,fun hh=>?_⟩
      ·have:=hH 1 (by simp);simpa using this
      ·refine lj hasc hst rest (i+1) _ H' cv' vs' hs' _ hrest hr' (fun k hk=>?_) ?_
       ·rw[bc hasc,hE];have:=hH (k+1) (by simp;omega);simp only[if_true,pL]at this ⊢;rw[show bp E i+1+k=bp E i+(k+1) by omega];exact this
       ·rw[bc hasc,hE];simpa using hh
     ·cases hq
    | false =>
     rw[hE]at hq;simp only[oZ,if_false]at hq;split at hq
     ·rename_i vs' hs' f' hr';cases hq;refine⟨vs',rfl,(fun h=>by cases h),fun hh=>?_⟩;refine lj hasc hst rest (i+1) _ H cv' vs' hs _ hrest hr' (fun k hk=>?_) ?_
      ·rw[bc hasc,hE];simpa using hH k hk
      ·rw[bc hasc,hE];simpa using hh
     ·cases hq
   cases hc:aj o.op with
   | some p =>
    obtain⟨g,args⟩:=p;rw[hc]at hr;simp only at hr;split at hr
    ·rename_i v H' cv';obtain⟨vs',rfl,hEH,hrec⟩:=fin v H' cv' hr;simp only[oblP,hw,hc]at h;simp only[bU,hw,hc];refine⟨?_,hrec h.2⟩
     cases hE:E.contains i with
     | true =>
      rw[hE]at h;simp only[if_true]at h ⊢;rw[jx hasc hE];exact h.1
     | false =>
      rw[hE]at h;simp only[oZ,if_false]at h ⊢;obtain⟨_,s2⟩:=hst i o ho hE
      have hns:cZ o.op=false:=by
       cases hop:o.op<;>rw[hop]at hc<;>simp only[aj]at hc<;>first | (cases hc;done) | rfl
      rw[hns]at s2;have s2:=s2.resolve_left (by simp);refine allC_of (fun c hcm=>?_);split
      ·rename_i hp
       rcases s2 c (by simpa using hcm) hp with rfl | hm
       ·exact cF h.1 _ (by simp)
       ·exact cF h.1 _ (by simp[hm])
      ·trivial
    ·cases hr
   | none =>
    rw[hc]at hr;simp only at hr
    cases hop:aop T o.op (aO fr) H with
    | none=>rw[hop]at hr;cases hr
    | some q =>
     obtain⟨v,H'⟩:=q;rw[hop]at hr;simp only at hr;obtain⟨vs',rfl,hEH,hrec⟩:=fin v H' cv hr;simp only[oblP,hw,hc]at h;simp only[bU,hw,hc];refine⟨?_,hrec h.2⟩
     cases hE:E.contains i with
     | true =>
      simp only[if_true];rw[jx hasc hE,hHi,hEH hE];exact hop
     | false =>
      rw[hE]at h;simp only[oZ,if_false,pr]at h ⊢;obtain⟨s1,s2⟩:=hst i o ho hE;refine allC_of (fun c hcm=>?_);split
      ·rename_i hp
       cases hsc:cZ o.op with
       | true=>exact iC hsc hop _
       | false =>
        rw[hsc]at h s2;simp only[oZ,if_false]at h
        cases hso:bN o.op with
        | true =>
         rw[hso,if_pos rfl]at h;have hHH:=fj hso hop;subst hHH
         rcases(s2.resolve_left (by simp)) c (by simpa using hcm) hp with rfl | hm
         ·rw[hHi];exact hop
         ·exact cF h.1 _ hm
        | false =>
         rw[hso,if_neg (by simp)]at h
         rcases(s2.resolve_left (by simp)) c (by simpa using hcm) hp with rfl | hm
         ·exact cF h.1 _ (by simp)
         ·exact cF h.1 _ (by simp[hm])
      ·trivial
where
 allC_of {p:Nat→Prop} : ∀{l:List Nat},(∀c∈l,p c)→dq p l
  | [],_=>trivial
  | c::l,h=>⟨h c (by simp),allC_of (fun d hd=>h d (by simp[hd]))⟩
theorem mJ(hT:TOk P T)(hm:P.follows .mixedOrders=true){id:Nat}{ops:Array Oper}{Q:Exit→List V→List B→Prop}{fr:List V}{H:List B}(E:List Nat)(tab:List (Nat×List Nat))(cv:List (V×List B))(hst:statP ops E tab=true)
  (h:∀(C:V→List V→List B→(V→List B→Prop)→Prop) (K:List V→List B→Prop),(∀fv args H K',aL P fv args H K'→C fv args H K')→(∀fr H,Q .normal fr H→K fr H)→DrawP T ops E tab cv C K fr H):W P (.region id ops true) Q fr H:=by
 refine W_draw hT hm E cv fun C K hC hK=>?_
 have h1:=h C K hC hK;unfold DrawP at h1;unfold gM;simp only[statP,oP]at hst;obtain⟨⟨st1,st2⟩,st3⟩:=hst;split at h1
 ·exact h1.elim
 ·rename_i vs hs f hr;rw[hr];obtain⟨a1,a2,a3⟩:=h1
  have hasc:jH E=true:=by
   unfold jS at st2;simp only[oP]at st2;exact st2.1.1
  have h00:bp E 0=0:=by cases E<;>simp[bp]
  refine⟨⟨jR st1 st2,a1⟩,?_,a3⟩;refine lj hasc (fun i o ho hE=>?_) ops.toList 0 fr H cv vs hs f (by simp) hr (fun k hk=>by rw[h00,pI]) (by rw[h00];exact a2);have hil:i<ops.size:=(Array.getElem?_eq_some_iff.1 ho).1;have:=List.all_eq_true.1 st3 i (by simpa using hil);rw[hE,ho,pr]at this;simp only[oP,pW]at this;refine⟨this.1,this.2.imp (fun h=>h) (fun hall c hc hp=>?_)⟩;have h3:=List.all_eq_true.1 hall c (by simpa using hc);simp only[pW,pZ,beq_iff_eq]at h3
  rcases h3 with(h3 | h3) | h3
  ·rw[hp]at h3;cases h3
  ·exact .inl h3
  ·exact .inr (List.contains_iff_mem.1 h3)
end
attribute [simp] DrawP oblP
end
theorem cap32l(n:Nat)(h:n≤1000000000):n≤9223372036854775807∧n*32≤140737488355328:=by omega
def dH(a b:ByteArray):Bool:=a.toList == b.toList
theorem eqSt_self(a:ByteArray):dH a a=true:=by simp[dH]
def iV(a b:List ByteArray):Bool:=decide (a.length=b.length)&&(oM a.length).all fun i=>dH (sAt a i) (sAt b i)
theorem eqSs_self(a:List ByteArray):iV a a=true:=by simp[iV,eqSt_self]
theorem strings03(a b:List ByteArray)(f g:Bool)(hl:a.length≤1000000):aJ Tryz.prog 60 [LS f a,LS g b] fun r=>r = .bool (iV a b):=by
 unfold iV;by_cases h0:a.length=b.length
 ·rw[decide_eq_true h0,pE]
  obtain⟨E,hE⟩:∃E,E=(oM a.length).all fun i=>dH (sAt a i) (sAt b i):=⟨_,rfl⟩
  rw[←hE];refine sPx Tryz.func60 rfl rfl ?_;simp -dsimp[Tryz.f60,oE,LS,h0];refine aI (W_loopM 26 0x3fff830 (by simp[mB]<;>rfl) (σ:=Nat) (fun i=>i≤a.length∧(oM i).all (fun i=>dH (sAt a i) (sAt b i))=true) (fun i=>a.length-i) (fun i=>[(5,.int .i64 i)]) (fun _=>[]) 0 ⟨by omega,rfl⟩ (by simp) rfl (by simp) ?_);rintro i ⟨hi,hall⟩ N Q hN hQ;by_cases hb:i<a.length
  ·have hb2:i<b.length:=by omega
   have ha1:sAt a i=a[i]:=by simp[sAt,hb]
   have ha2:sAt b i=b[i]:=by simp[sAt,hb2]
   cases hq:(a[i].toList == b[i].toList) with
   | true =>
    refine wx ?_;simp -dsimp[hb,hb2,hq];refine .inr ⟨aS (by kernel_rfl),?_⟩;simp -dsimp[aP i (by omega)];refine hN (i+1) _ _ ⟨by omega,bt hall (by unfold dH;rw[ha1,ha2,hq])⟩ (by omega) (by simp) ⟨[],rfl⟩ (by simp) (by simp)
   | false =>
    have hno:(oM a.length).all (fun i=>dH (sAt a i) (sAt b i))=false:=by
     cases hh:(oM a.length).all (fun i=>dH (sAt a i) (sAt b i))
     ·rfl
     ·have:=List.all_eq_true.1 hh i (by simpa using hb);rw[dH,ha1,ha2,hq]at this;cases this
    rw[hno]at hE;refine wx ?_;simp -dsimp[hb,hb2,hq];refine .inr ⟨aS (by kernel_rfl),?_⟩;refine hQ _ _ _ ?_;simp -dsimp[];exact hE
  ·obtain rfl:i=a.length:=by omega
   rw[hall]at hE;refine wx ?_;simp -dsimp[hb];refine hQ _ _ _ ?_;simp -dsimp[];exact hE
 ·rw[decide_eq_false h0,pF];refine sPx Tryz.func60 rfl rfl ?_;simp -dsimp[Tryz.f60,oE,LS,show ¬((a.length:Int)=b.length) by omega]
def lT(a b:Rw):Bool:=decide (a.id=b.id)&&fa a.vals b.vals == 0
theorem cmpI_self(x:Int):bR x x=0:=by unfold bR;simp
theorem cmpB_self:∀a:List UInt8,Lib.compareBytes a a=0
 | []=>by simp[Lib.compareBytes]
 | x::xs=>by
  rw[Lib.compareBytes,if_neg (UInt8.lt_irrefl _),if_neg (UInt8.lt_irrefl _)];exact cmpB_self xs
theorem cmpV_self(v:Vl):iY v v=0:=by
 unfold iY;rw[if_pos (cmpI_self _),if_pos (cmpI_self _)];exact cmpB_self _
theorem lM(a b:Rw)(hl:a.vals.length≤1000000)(hs:∀v∈a.vals,v.s.size≤maxLen):aJ Tryz.prog 61 [aC a,aC b] fun r=>r = .bool (lT a b):=by
 have c1:=same01 a.vals b.vals false false hl hs;simp only[LV]at c1;unfold lT;by_cases h:a.id=b.id
 ·rw[decide_eq_true h,pE];refine sPx Tryz.func61 rfl rfl ?_;simp -dsimp[Tryz.f61,oE,aC,LV,h];refine cPx (c1) (by simp) ?_;simp -dsimp[]
 ·rw[decide_eq_false h,pF];refine sPx Tryz.func61 rfl rfl ?_;simp -dsimp[Tryz.f61,oE,aC,LV,h]
def rwG(rs:List Rw)(i:Nat):Rw:=rs.getD i ⟨0,[]⟩
def eqRs(a b:List Rw):Bool:=(oM a.length).all fun i=>lT (rwG a i) (rwG b i)
def eqTb(t u:Tb):Bool:=dH t.name u.name&&(iV t.attrs u.attrs&&(decide (t.rows.length=u.rows.length)&&eqRs t.rows u.rows))
theorem iO(t u:Tb)(f g f2 g2:Bool)(ha:t.attrs.length≤1000000)(hr:t.rows.length≤1000000)(hl:∀r∈t.rows,r.vals.length≤1000000∧∀v∈r.vals,v.s.size≤maxLen):aJ Tryz.prog 22 [aD f g t,aD f2 g2 u] fun r=>r = .bool (eqTb t u):=by
 have c1:=strings03 t.attrs u.attrs f f2 ha;simp only[LS]at c1;unfold eqTb
 cases h1:(t.name.toList == u.name.toList) with
 | false =>
  rw[dH,h1,pF];refine sPx Tryz.func22 rfl rfl ?_;simp -dsimp[Tryz.f22,oE,aD,LS,LR,h1]
 | true =>
  rw[dH,h1,pE]
  cases h2:iV t.attrs u.attrs with
  | false =>
   rw[h2]at c1;rw[pF];refine sPx Tryz.func22 rfl rfl ?_;simp -dsimp[Tryz.f22,oE,aD,LS,LR,h1];refine cPx (c1) (by simp) ?_;simp -dsimp[]
  | true =>
   rw[h2]at c1;rw[pE];by_cases h3:t.rows.length=u.rows.length
   ·rw[decide_eq_true h3,pE];unfold eqRs
    obtain⟨E,hE⟩:∃E,E=(oM t.rows.length).all fun i=>lT (rwG t.rows i) (rwG u.rows i):=⟨_,rfl⟩
    rw[←hE];refine sPx Tryz.func22 rfl rfl ?_;simp -dsimp[Tryz.f22,oE,aD,LS,LR,h1];refine cPx (c1) (by simp) ?_;simp -dsimp[h3];refine aI (W_loopM 47 0x7ffff0000030 (by simp[mB]<;>rfl) (σ:=Nat) (fun i=>i≤t.rows.length∧(oM i).all (fun i=>lT (rwG t.rows i) (rwG u.rows i))=true) (fun i=>t.rows.length-i) (fun i=>[(5,.int .i64 i)]) (fun _=>[B.cells [.str t.name,.lst 1 f (t.attrs.map V.str),.lst 2 g (t.rows.map aC)],B.cells [.str u.name,.lst 1 f2 (u.attrs.map V.str),.lst 2 g2 (u.rows.map aC)]]) 0 ⟨by omega,rfl⟩ (by simp) (by simp) (by simp) ?_);rintro i ⟨hi,hall⟩ N Q hN hQ;by_cases hb:i<t.rows.length
    ·have hb2:i<u.rows.length:=by omega
     have ha1:rwG t.rows i=t.rows[i]:=by simp[rwG,hb]
     have ha2:rwG u.rows i=u.rows[i]:=by simp[rwG,hb2]
     obtain⟨hx1,hx2⟩:=hl t.rows[i] (oI hb);have c2:=lM t.rows[i] u.rows[i] hx1 hx2;obtain⟨x,hx⟩:∃x,x=t.rows[i]:=⟨_,rfl⟩;obtain⟨y,hy⟩:∃y,y=u.rows[i]:=⟨_,rfl⟩;rw[←hx]at ha1 c2;rw[←hy]at ha2 c2;have hx':=hx.symm;have hy':=hy.symm;simp only[aC,LV]at c2
     cases hq:lT x y with
     | true =>
      rw[hq]at c2;refine wx ?_;simp -dsimp[hb,hb2,hx',hy',aC,LV];refine .inr ⟨aS (by kernel_rfl),?_⟩;refine az _ (aT (c2) (by simp)) ?_;simp -dsimp[aP i (by omega)];refine hN (i+1) _ _ ⟨by omega,bt hall (by rw[ha1,ha2,hq])⟩ (by omega) (by simp) ⟨[],by simp⟩ (by simp) (by simp)
     | false =>
      rw[hq]at c2
      have hno:(oM t.rows.length).all (fun i=>lT (rwG t.rows i) (rwG u.rows i))=false:=by
       cases hh:(oM t.rows.length).all (fun i=>lT (rwG t.rows i) (rwG u.rows i))
       ·rfl
       ·have:=List.all_eq_true.1 hh i (by simpa using hb);rw[ha1,ha2,hq]at this;cases this
      rw[hno]at hE;refine wx ?_;simp -dsimp[hb,hb2,hx',hy',aC,LV];refine .inr ⟨aS (by kernel_rfl),?_⟩;refine az _ (aT (c2) (by simp)) ?_;simp -dsimp[];refine hQ _ _ _ ?_;simp -dsimp[];exact hE
    ·obtain rfl:i=t.rows.length:=by omega
     rw[hall]at hE;refine wx ?_;simp -dsimp[hb];refine hQ _ _ _ ?_;simp -dsimp[];exact hE
   ·rw[decide_eq_false h3,pF];refine sPx Tryz.func22 rfl rfl ?_;simp -dsimp[Tryz.f22,oE,aD,LS,LR,h1];refine cPx (c1) (by simp) ?_;simp -dsimp[show ¬((t.rows.length:Int)=u.rows.length) by omega]
theorem jB:∀vs:List Vl,fa vs vs=0
 | []=>rfl
 | v::vs=>by
  simp only[fa,cmpV_self];simpa using jB vs
theorem eqRs_self(a:List Rw):eqRs a a=true:=by simp[eqRs,lT,jB]
theorem fR(t:Tb):eqTb t t=true:=by simp[eqTb,eqSt_self,eqSs_self,eqRs_self]
@[simp ↓ high] theorem rbB_rws (n e z:Nat) (l:List Rw) (fz:Bool):rbB n (.buf e z (l.map aC) fz)↔True:=by
 refine⟨fun _=>trivial,fun _ x hx c hc=>?_⟩;obtain⟨r,_,rfl⟩:=List.mem_map.1 hx;simp[aC,LV,V.cells]at hc
 rcases hc with rfl | rfl<;>simp
@[simp ↓ high] theorem rbB_vls (n e z:Nat) (l:List Vl) (fz:Bool):rbB n (.buf e z (l.map aF) fz)↔True:=by
 refine⟨fun _=>trivial,fun _ x hx c hc=>?_⟩;obtain⟨r,_,rfl⟩:=List.mem_map.1 hx;simp[aF,V.cells]at hc
 rcases hc with rfl | rfl | rfl<;>simp
def fnd(rs:List Rw)(id:Int)(i:Nat):Nat×Bool:=if h:i<rs.length then(if rs[i].id=id then(i,true) else fnd rs id (i+1)) else(0,false)
termination_by rs.length-i
theorem find03(t:Tb)(f g:Bool)(id:Int)(hr:t.rows.length≤1000000):aJ Tryz.prog 66 [aD f g t,.int .i64 id] fun r=>r = .tup [.int .i64 (fnd t.rows id 0).1,.bool (fnd t.rows id 0).2]:=by
 obtain⟨E,hE⟩:∃E,E=fnd t.rows id 0:=⟨_,rfl⟩;rw[←hE];refine sPx Tryz.func66 rfl rfl ?_;simp -dsimp[Tryz.f66,oE,aD,LS,LR];refine aI (W_loopM 23 0x7ffff0 (by simp[mB]<;>rfl) (σ:=Nat) (fun i=>fnd t.rows id i=E) (fun i=>t.rows.length-i) (fun i=>[(6,.int .i64 i)]) (fun _=>[B.cells [.str t.name,.lst 1 f (t.attrs.map V.str),.lst 2 g (t.rows.map aC)]]) 0 hE.symm (by simp) (by simp) (by simp) ?_);intro i hx N Q hN hQ;by_cases hb:i<t.rows.length
 ·rw[fnd,dif_pos hb]at hx;by_cases hq:t.rows[i].id=id
  ·rw[if_pos hq]at hx;subst hx;refine wx ?_;simp -dsimp[hb,aC,LV,hq];refine hQ _ _ _ ?_;simp -dsimp[]
  ·rw[if_neg hq]at hx;refine wx ?_;simp -dsimp[hb,aC,LV,hq];simp -dsimp[aP i (by omega)];refine hN (i+1) _ _ hx (by omega) (by simp) ⟨[],by simp⟩ (by simp) (by simp)
 ·rw[fnd,dif_neg hb]at hx;subst hx;refine wx ?_;simp -dsimp[hb];refine hQ _ _ _ ?_;simp -dsimp[]
theorem fnd_at{rs:List Rw}{i:Nat}(h:i<rs.length)(hp:rs.Pairwise fun a b=>a.id<b.id)(d:Nat):∀j,j+d=i→fnd rs rs[i].id j=(i,true):=by
 induction d with
 | zero =>
  intro j e
  obtain rfl:j=i:=by omega
  rw[fnd,dif_pos h,if_pos rfl]
 | succ d ih =>
  intro j e;rw[fnd,dif_pos (by omega),if_neg]
  ·exact ih (j+1) (by omega)
  ·have:=List.pairwise_iff_getElem.1 hp j i (by omega) h (by omega);omega
def ixR(p:Rw→Bool)(rs:List Rw)(i:Nat):Int:=if h:i<rs.length then(if p rs[i] then(i:Int) else ixR p rs (i+1)) else -1
termination_by rs.length-i
theorem idxFuncR(H:List B)(fv:V)(p:Rw→Bool)(rs:List Rw)(g:Bool)(hes:rs.length≤1000000)(hH:∀bl∈H,rbB H.length bl)(hfv:rb H.length fv)
  (hp:∀m∈rs,aL Tryz.prog fv [aC m] H fun r H'=>r = .bool (p m)∧∃G,H'=H++G):aU Tryz.prog 73 [LR g rs,fv] H fun r H'=>r = .int .i64 (ixR p rs 0)∧∃G,H'=H++G:=by
 refine aE tok Tryz.func73 rfl rfl ?_;refine wx ?_;simp -dsimp[Tryz.f73,oE,LR];refine aI (W_loopM 19 0x7ff30 (by simp[mB]<;>rfl) (σ:=Nat) (fun i=>ixR p rs i=ixR p rs 0) (fun i=>rs.length-i) (fun i=>[(8,.int .i64 i)]) (fun _=>H) 0 rfl (by simp) rfl (by simp) ?_);intro i hx N Q hN hQ;by_cases hb:i<rs.length
 ·rw[ixR,dif_pos hb]at hx;have hc:=hp rs[i] (oI hb);cases hq:p rs[i]
  ·rw[hq]at hc hx;simp only[aC,LV]at hc;refine wx ?_;simp -dsimp[hb,aC,LV];refine hc.mono ?_;rintro r H' ⟨rfl,G,rfl⟩;simp -dsimp[aP i (by omega)];refine hN (i+1) _ _ (by simpa using hx) (by omega) (by simp) ⟨G,rfl⟩ (by simp;exact hfv) hH
  ·rw[hq]at hc hx;simp only[aC,LV]at hc;refine wx ?_;simp -dsimp[hb,aC,LV];refine hc.mono ?_;rintro r H' ⟨rfl,G,rfl⟩;simp -dsimp[];refine hQ _ _ _ ?_;simp -dsimp[];simpa using hx
 ·rw[ixR,dif_neg hb]at hx;refine wx ?_;simp -dsimp[hb];refine hQ _ _ _ ?_;simp -dsimp[];simpa using hx
theorem ixR_fnd(rs:List Rw)(id:Int)(i:Nat):ixR (fun r=>r.id == id) rs i=if(fnd rs id i).2=true then((fnd rs id i).1:Int) else -1:=by
 fun_induction fnd rs id i with
 | case1 i hi he=>rw[ixR,dif_pos hi,if_pos (by simpa using he)];rfl
 | case2 i hi he ih=>rw[ixR,dif_pos hi,if_neg (by simpa using he)];exact ih
 | case3 i hi=>rw[ixR,dif_neg hi];rfl
theorem fnd_no0{rs:List Rw}{id:Int}(i:Nat):(fnd rs id i).2=false→(fnd rs id i).1=0:=by
 fun_induction fnd rs id i with
 | case1 i hi he=>intro h;cases h
 | case2 i hi he ih=>exact ih
 | case3 i hi=>exact fun _=>rfl
theorem gB(t:Tb)(ff gg:Bool)(id:Int)(hr:t.rows.length≤1000000):aJ Tryz.prog 33 [aD ff gg t,.int .i64 id] fun r=>r = .tup [.int .i64 (fnd t.rows id 0).1,.bool (fnd t.rows id 0).2]:=by
 have hclo:∀m∈t.rows,aL Tryz.prog (.fn 74 [.ptr 1 0]) [aC m] [B.cells [.str t.name,LS ff t.attrs,LR gg t.rows],B.cells [.int .i64 id]] fun r H'=>r = .bool (m.id == id)∧∃G,H'=[B.cells [.str t.name,LS ff t.attrs,LR gg t.rows],B.cells [.int .i64 id]]++G:=fun m hm=>by
  simp only[aL,pg,pH];refine aE tok Tryz.func74 rfl rfl ?_;refine wx ?_;simp -dsimp[Tryz.f74,oE,aC,LS,LR,LV]
 have hcf:=idxFuncR [B.cells [.str t.name,LS ff t.attrs,LR gg t.rows],B.cells [.int .i64 id]] (.fn 74 [.ptr 1 0]) (fun m=>m.id == id) t.rows gg hr (by simp[LS,LR]) (by simp) hclo;rw[ixR_fnd]at hcf;simp only[LS,LR]at hcf
 cases h0:(fnd t.rows id 0).2 with
 | true =>
  rw[h0,if_pos rfl]at hcf;obtain⟨n,hn⟩:∃n,n=(fnd t.rows id 0).1:=⟨_,rfl⟩;rw[←hn]at hcf ⊢;refine sPx Tryz.func33 rfl rfl ?_;simp -dsimp[Tryz.f33,oE,aD,LS,LR];refine aL.mono (K:=fun r H'=>r = .int .i64 (n:Int)∧∃G,H'=[B.cells [.str t.name,.lst 1 ff (t.attrs.map V.str),.lst 2 gg (t.rows.map aC)],B.cells [.int .i64 id]]++G) hcf ?_;rintro r H' ⟨rfl,G,rfl⟩;simp -dsimp[show(0:Int)≤(n:Int) by omega,show ¬(n:Int)<0 by omega]
 | false =>
  rw[h0,if_neg (by simp)]at hcf;rw[fnd_no0 0 h0];refine sPx Tryz.func33 rfl rfl ?_;simp -dsimp[Tryz.f33,oE,aD,LS,LR];refine aL.mono (K:=fun r H'=>r = .int .i64 (-1)∧∃G,H'=[B.cells [.str t.name,.lst 1 ff (t.attrs.map V.str),.lst 2 gg (t.rows.map aC)],B.cells [.int .i64 id]]++G) hcf ?_;rintro r H' ⟨rfl,G,rfl⟩;simp -dsimp[]
theorem cmpI_eq(x y:Int):bR x y=0↔x=y:=by
 unfold bR;split
 ·simp;omega
 ·split<;>simp<;>omega
theorem cmpB_zero:∀(a b:List UInt8),Lib.compareBytes a b=0↔a=b
 | [],[]=>by simp[Lib.compareBytes]
 | [],_::_=>by simp[Lib.compareBytes]
 | _::_,[]=>by simp[Lib.compareBytes]
 | a::xs,b::bs=>by
  rw[Lib.compareBytes,List.cons.injEq];split
  ·rename_i h;constructor
   ·intro h2;cases h2
   ·rintro⟨rfl,_⟩;exact absurd h (UInt8.lt_irrefl _)
  ·split
   ·rename_i h;constructor
    ·intro h2;cases h2
    ·rintro⟨rfl,_⟩;exact absurd h (UInt8.lt_irrefl _)
   ·rename_i h1 h2;rw[cmpB_zero xs bs];constructor
    ·intro h;exact⟨UInt8.le_antisymm (UInt8.not_lt.1 h2) (UInt8.not_lt.1 h1),h⟩
    ·exact fun h=>h.2
theorem cmpS_zero(a b:ByteArray):jC a b=0↔a=b:=by
 unfold jC;rw[cmpB_zero];constructor
 ·intro h;cases a;cases b;simp only[ByteArray.mk.injEq];exact Array.ext' h
 ·rintro rfl;rfl
theorem cmpV_zero(a b:Vl):iY a b=0↔a=b:=by
 unfold iY;have h1:=cmpI_eq a.k b.k;have h2:=cmpI_eq a.n b.n;have h3:=cmpS_zero a.s b.s
 have he:a=b↔a.k=b.k∧a.n=b.n∧a.s=b.s:=by cases a;cases b;simp
 rw[he];split
 ·rename_i g1;split
  ·rename_i g2;rw[h3];exact⟨fun h=>⟨h1.1 g1,h2.1 g2,h⟩,fun h=>h.2.2⟩
  ·rename_i g2;exact⟨fun h=>absurd h g2,fun h=>absurd (h2.2 h.2.1) g2⟩
 ·rename_i g1;exact⟨fun h=>absurd h g1,fun h=>absurd (h1.2 h.1) g1⟩
instance decVl:DecidableEq Vl:=fun a b =>
 if h:a.k=b.k∧a.n=b.n∧a.s=b.s then .isTrue (by
  obtain⟨k,n,s⟩:=a;obtain⟨k',n',s'⟩:=b;obtain⟨rfl,rfl,rfl⟩:=h
  rfl) else .isFalse (fun e=>h (by subst e;exact⟨rfl,rfl,rfl⟩))
theorem ba_beqV(a b:ByteArray):(a == b)=decide (a=b):=by
 rw[qS,decide_eq_true_iff];cases a;cases b;rename_i x y;rw[ByteArray.mk.injEq,show((ByteArray.mk x == ByteArray.mk y)=(x == y)) from rfl];exact beq_iff_eq
theorem int_beqV(a b:Int):(a == b)=decide (a=b):=by
 rw[qS,decide_eq_true_iff];exact beq_iff_eq
theorem eqVl9(H:List B)(a b:Vl):eK T H 79 (.agg [.int .i64 a.k,.int .i64 a.n,.str a.s]) (.agg [.int .i64 b.k,.int .i64 b.n,.str b.s])=some (decide (a=b)):=by
 have h1:∀x y:Int,eqD T 9999 3 (.int .i64 x) (.int .i64 y)=some (decide (x=y)):=fun x y=>by simp[eqD,int_beqV]
 have h2:∀x y:Int,eqD T 9999 2 (.int .i64 x) (.int .i64 y)=some (decide (x=y)):=fun x y=>by simp[eqD,int_beqV]
 have h3:∀x y:ByteArray,eqD T 9999 9 (.str x) (.str y)=some (decide (x=y)):=fun x y=>by simp[eqD,ba_beqV]
 simp only[eK];rw[show(10000:Nat)=9999+1 from rfl,eqD];simp only[T_79];simp only[if_true,eqFs,iX,T_3,T_2,T_9,bY,qI,pL,oZ,if_false,h1,h2,h3];obtain⟨k,n,s⟩:=a;obtain⟨k',n',s'⟩:=b;by_cases e1:k=k'<;>by_cases e2:n=n'<;>by_cases e3:s=s'<;>simp[e1,e2,e3]
theorem eqSt_beq(a b:ByteArray):dH a b=decide (a=b):=by
 unfold dH;rw[qS,beq_iff_eq,decide_eq_true_iff];constructor
 ·intro h
  have h2:a.data.toList=b.data.toList:=by simpa[ByteArray.toList_eq] using h
  cases a;cases b;simp only[ByteArray.mk.injEq];exact Array.toList_inj.1 h2
 ·rintro rfl;rfl
theorem eqSt_eq{a b:ByteArray}(h:(a.toList == b.toList)=true):a=b:=by
 have:=eqSt_beq a b;unfold dH at this;rw[h]at this;simpa using this.symm
structure Chg where
 k:Int
 row:Rw
 a:Int
 v:Vl
def vl0:Vl:=⟨0,0,oF⟩
def ae(nm:ByteArray)(c:Chg):V:=.agg [.int .i64 c.k,.str nm,.str oF,.nilS,.nilS,.int .i64 c.row.id,LV false c.row.vals,.int .i64 c.a,.int .i64 c.v.k,.int .i64 c.v.n,.str c.v.s]
@[simp] theorem encChg_pure (nm:ByteArray) (c:Chg):AM.Pure (ae nm c):=by simp[ae,LV]
@[simp] theorem encChg_oneV (nm:ByteArray) (c:Chg):cT (ae nm c)=true:=by simp[ae,cT,LV,V.one]
def LCh(f:Bool)(nm:ByteArray)(l:List Chg):V:=.lst 11 f (l.map (ae nm))
@[simp] theorem LCh_pure (f:Bool) (nm:ByteArray) (l:List Chg):AM.Pure (LCh f nm l):=by simp[LCh]
def atV(l:List Vl)(i:Nat):Vl:=l.getD i vl0
def ah(tv:List Vl):Nat→List Vl→List Vl
 | 0,now=>now
 | a+1,now=>(ah tv a now).set a (atV tv a)
def chP(id:Int)(tv:List Vl):Nat→List Vl→List Chg
 | 0,_=>[]
 | a+1,now=>chP id tv a now++(if atV (ah tv a now) a=atV tv a then [] else [⟨4,⟨id,ah tv a now⟩,a,atV tv a⟩])
theorem eZ(tv now:List Vl):∀a,(ah tv a now).length=now.length
 | 0=>rfl
 | a+1=>by rw[ah,pN,eZ tv now a]
theorem set_same{l:List Vl}{a:Nat}{v:Vl}(h:a<l.length)(e:atV l a=v):l.set a v=l:=by
 subst e;unfold atV;rw[pj,oG h,qG,qQ]
def inT(t:Tb)(id:Int):Bool:=(fnd t.rows id 0).2
def atT(t:Tb)(id:Int):Rw:=rwG t.rows (fnd t.rows id 0).1
def chR(u:Tb)(w:Nat)(r:Rw):List Chg:=if inT u r.id then chP r.id (atT u r.id).vals w r.vals else []
def eF(u:Tb)(rs:List Rw):List Chg:=(rs.filter fun r=>!inT u r.id).map fun r=>⟨3,r,0,vl0⟩
def dj(t:Tb)(rs:List Rw):List Chg:=(rs.filter fun r=>!inT t r.id).map fun r=>⟨2,r,0,vl0⟩
def chL(u:Tb)(w:Nat)(rs:List Rw):List Chg:=rs.flatMap (chR u w)
theorem delL_snoc(u:Tb){rs:List Rw}{i:Nat}(h:i<rs.length):eF u (rs.take (i+1))=eF u (rs.take i)++(if inT u rs[i].id then [] else [⟨3,rs[i],0,vl0⟩]):=by
 unfold eF;rw[oN h,qC,oe];congr 1;cases hq:inT u rs[i].id<;>simp[List.filter,hq]
theorem insL_snoc(u:Tb){rs:List Rw}{i:Nat}(h:i<rs.length):dj u (rs.take (i+1))=dj u (rs.take i)++(if inT u rs[i].id then [] else [⟨2,rs[i],0,vl0⟩]):=by
 unfold dj;rw[oN h,qC,oe];congr 1;cases hq:inT u rs[i].id<;>simp[List.filter,hq]
theorem chL_snoc(u:Tb)(w:Nat){rs:List Rw}{i:Nat}(h:i<rs.length):chL u w (rs.take (i+1))=chL u w (rs.take i)++chR u w rs[i]:=by
 unfold chL;rw[oN h,rH];simp
def dD(t u:Tb):Int:=if aG t=0 then(if aG u=0 then(if dH t.name u.name&&iV t.attrs u.attrs then 0 else 1) else aG u) else aG t
def eY(t u:Tb):List Chg:=eF u t.rows++(chL u t.attrs.length t.rows++dj t u.rows)
def lE(t u:Tb):V:=if dD t u=0 then LCh false t.name (eY t u) else .nilS
theorem mG(id:Int)(tv now:List Vl):∀a,(chP id tv a now).length≤a
 | 0=>oJ _
 | a+1=>by
  have:=mG id tv now a;rw[chP,oT];split<;>simp<;>omega
theorem chR_len(u:Tb)(w:Nat)(r:Rw):(chR u w r).length≤w:=by
 unfold chR;split
 ·exact mG _ _ _ _
 ·exact qV _
theorem mH(u:Tb)(w:Nat):∀rs:List Rw,(chL u w rs).length≤rs.length*w
 | []=>by simp[chL]
 | r::rs=>by
  have h1:=mH u w rs;have h2:=chR_len u w r;unfold chL at h1 ⊢;rw[qh,oT,og,Nat.succ_mul];omega
theorem nY(u:Tb)(rs:List Rw):(eF u rs).length≤rs.length:=by
 unfold eF;rw[oW];exact pf _ _
theorem nB(u:Tb)(rs:List Rw):(dj u rs).length≤rs.length:=by
 unfold dj;rw[oW];exact pf _ _
def Srt(rs:List Rw):Prop:=rs.Pairwise fun r s=>r.id<s.id
theorem jT:∀{l m:List Rw},Srt l→Srt m→(∀r,r∈l↔r∈m)→l=m
 | [],[],_,_,_=>rfl
 | [],b::m,_,_,h=>absurd ((h b).2 ou) (by simp)
 | a::l,[],_,_,h=>absurd ((h a).1 ou) (by simp)
 | a::l,b::m,hl,hm,h=>by
  obtain⟨h1,h2⟩:=List.pairwise_cons.1 hl;obtain⟨h3,h4⟩:=List.pairwise_cons.1 hm
  have hab:a=b:=by
   rcases List.mem_cons.1 ((h a).1 ou) with e | e
   ·exact e
   ·rcases List.mem_cons.1 ((h b).2 ou) with e' | e'
    ·exact e'.symm
    ·have:=h1 b e';have:=h3 a e;omega
  subst hab;congr 1
  refine jT h2 h4 fun r=>⟨fun hr=>?_,fun hr=>?_⟩
  ·rcases List.mem_cons.1 ((h r).1 (ow _ hr)) with e | e
   ·subst e;have:=h1 _ hr;omega
   ·exact e
  ·rcases List.mem_cons.1 ((h r).2 (ow _ hr)) with e | e
   ·subst e;have:=h3 _ hr;omega
   ·exact e
theorem ii{l:List Rw}(h:Srt l){r s:Rw}(hr:r∈l)(hs:s∈l)(e:r.id=s.id):r=s:=by
 induction l with
 | nil=>cases hr
 | cons a l ih =>
  obtain⟨h1,h2⟩:=List.pairwise_cons.1 h
  rcases List.mem_cons.1 hr with e1 | e1<;>rcases List.mem_cons.1 hs with e2 | e2
  ·rw[e1,e2]
  ·subst e1;have:=h1 s e2;omega
  ·subst e2;have:=h1 r e1;omega
  ·exact ih h2 e1 e2
def eE(rs:List Rw)(id:Int):List Rw:=rs.filter fun r=>!decide (r.id=id)
def fw(rs:List Rw)(r:Rw):List Rw:=rs.filter (fun s=>decide (s.id<r.id))++r::rs.filter (fun s=>decide (r.id<s.id))
def gX(rs:List Rw)(id:Int)(a:Nat)(v:Vl):List Rw:=rs.map fun r=>if r.id=id then⟨r.id,r.vals.set a v⟩ else r
theorem fq{rs:List Rw}{id:Int}{r:Rw} : r∈eE rs id↔r∈rs∧¬r.id=id:=by simp[eE]
theorem fp{rs:List Rw}{r s:Rw} : s∈fw rs r↔s=r∨(s∈rs∧¬s.id=r.id):=by
 simp only[fw,qB,oR,qF,decide_eq_true_eq];constructor
 ·rintro(⟨h1,h2⟩ | h | ⟨h1,h2⟩)
  ·exact .inr ⟨h1,by omega⟩
  ·exact .inl h
  ·exact .inr ⟨h1,by omega⟩
 ·rintro(h | ⟨h1,h2⟩)
  ·exact .inr (.inl h)
  ·by_cases h3:s.id<r.id
   ·exact .inl ⟨h1,h3⟩
   ·exact .inr (.inr ⟨h1,by omega⟩)
theorem mem_chg{rs:List Rw}{id:Int}{a:Nat}{v:Vl}{s:Rw} : s∈gX rs id a v↔(s∈rs∧¬s.id=id)∨∃r∈rs,r.id=id∧s=⟨r.id,r.vals.set a v⟩:=by
 simp only[gX,List.mem_map];constructor
 ·rintro⟨r,hr,h⟩;by_cases e:r.id=id
  ·rw[if_pos e]at h;exact .inr ⟨r,hr,e,h.symm⟩
  ·rw[if_neg e]at h;subst h;exact .inl ⟨hr,e⟩
 ·rintro(⟨h1,h2⟩ | ⟨r,hr,e,h⟩)
  ·exact⟨s,h1,if_neg h2⟩
  ·exact⟨r,hr,by rw[if_pos e,h]⟩
theorem srt_del{rs:List Rw}(h:Srt rs)(id:Int):Srt (eE rs id):=List.Pairwise.filter _ h
theorem srt_ins{rs:List Rw}(h:Srt rs)(r:Rw):Srt (fw rs r):=by
 refine List.pairwise_append.2 ⟨List.Pairwise.filter _ h,List.pairwise_cons.2 ⟨fun s hs=>?_,List.Pairwise.filter _ h⟩,fun x hx y hy=>?_⟩
 ·simpa using(List.mem_filter.1 hs).2
 ·have h1:x.id<r.id:=by simpa using(List.mem_filter.1 hx).2
  rcases List.mem_cons.1 hy with rfl | hy
  ·exact h1
  ·have:r.id<y.id:=by simpa using(List.mem_filter.1 hy).2
   omega
theorem chg_id(id:Int)(a:Nat)(v:Vl)(r:Rw):(if r.id=id then(⟨r.id,r.vals.set a v⟩:Rw) else r).id=r.id:=by split<;>rfl
theorem srt_chg{rs:List Rw}(h:Srt rs)(id:Int)(a:Nat)(v:Vl):Srt (gX rs id a v):=by
 refine List.pairwise_map.2 (h.imp fun {x y} hxy=>?_);rw[chg_id,chg_id];exact hxy
theorem del_ins{rs:List Rw}{r:Rw}(h:Srt rs)(hn:∀s∈rs,¬s.id=r.id):eE (fw rs r) r.id=rs:=by
 refine jT (srt_del (srt_ins h r) _) h fun s=>?_
 rw[fq,fp];constructor
 ·rintro⟨rfl | ⟨h1,_⟩,h2⟩
  ·exact absurd rfl h2
  ·exact h1
 ·intro hs;exact⟨.inr ⟨hs,hn s hs⟩,hn s hs⟩
theorem ins_del{rs:List Rw}{r:Rw}(h:Srt rs)(hr:r∈rs):fw (eE rs r.id) r=rs:=by
 refine jT (srt_ins (srt_del h _) r) h fun s=>?_
 rw[fp,fq];constructor
 ·rintro(rfl | ⟨⟨h1,_⟩,_⟩)
  ·exact hr
  ·exact h1
 ·intro hs;by_cases e:s.id=r.id
  ·exact .inl (ii h hs hr e)
  ·exact .inr ⟨⟨hs,e⟩,e⟩
theorem chg_chg{rs:List Rw}{r:Rw}(h:Srt rs)(hr:r∈rs){a:Nat}(ha:a<r.vals.length)(v:Vl):gX (gX rs r.id a v) r.id a (atV r.vals a)=rs:=by
 have hs:atV r.vals a=r.vals[a]:=by simp[atV,ha]
 unfold gX;rw[qu]
 conv=>rhs;rw[←rt rs]
 refine oo fun s hs2=>?_
 simp only[Function.comp,id];by_cases e:s.id=r.id
 ·obtain rfl:=ii h hs2 hr e;rw[if_pos rfl,if_pos rfl,rV,hs,qQ]
 ·rw[if_neg e,if_neg e]
theorem fnd_iff{rs:List Rw}{id:Int}(i:Nat):(fnd rs id i).2=true↔∃r∈rs.drop i,r.id=id:=by
 fun_induction fnd rs id i with
 | case1 i hi he=>exact⟨fun _=>⟨rs[i],by rw[oK hi];exact ou,he⟩,fun _=>rfl⟩
 | case2 i hi he ih =>
  rw[ih,oK hi];constructor
  ·rintro⟨r,hr,e⟩;exact⟨r,ow _ hr,e⟩
  ·rintro⟨r,hr,e⟩
   rcases List.mem_cons.1 hr with rfl | hr
   ·exact absurd e he
   ·exact⟨r,hr,e⟩
 | case3 i hi=>rw[oV (by omega)];simp
theorem nJ{rs:List Rw}{id:Int}(i:Nat):(fnd rs id i).2=true→(rwG rs (fnd rs id i).1).id=id∧rwG rs (fnd rs id i).1∈rs:=by
 fun_induction fnd rs id i with
 | case1 i hi he=>exact fun _=>by simp only[rwG,pj,oG hi,qG];exact⟨he,oI hi⟩
 | case2 i hi he ih=>exact ih
 | case3 i hi=>intro h;cases h
theorem dX{t:Tb}{id:Int} : inT t id=true↔∃r∈t.rows,r.id=id:=by unfold inT;rw[fnd_iff,pC]
theorem gK{t:Tb}{id:Int}(h:inT t id=true):(atT t id).id=id∧atT t id∈t.rows:=nJ 0 h
theorem atT_mem{t:Tb}{r:Rw}(hs:Srt t.rows)(hr:r∈t.rows):inT t r.id=true∧atT t r.id=r:=by
 have h:inT t r.id=true:=dX.2 ⟨r,hr,rfl⟩;exact⟨h,ii hs (gK h).2 hr (gK h).1⟩
def wrT(t:Tb)(rs:List Rw):Tb:=⟨t.name,t.attrs,rs⟩
structure Ch where
 k:Int
 nm:ByteArray
 tb:Tb
 row:Rw
 a:Int
 v:Vl
def bX(t:Tb)(r:Rw):Int:=if ¬r.vals.length=t.attrs.length then 6 else if r.id≤0∨r.vals.all aW=false then 1 else if inT t r.id=true then 5 else if 1000≤t.rows.length then 3 else 0
def fN(t:Tb)(r:Rw):Bool:=inT t r.id&&decide ((atT t r.id).vals=r.vals)
def av(t:Tb)(c:Ch):Option Tb :=
 if c.nm=t.name then
  if c.k=2 then(if bX t c.row=0 then some (wrT t (fw t.rows c.row)) else none)
  else if fN t c.row=true then
   if c.k=3 then some (wrT t (eE t.rows c.row.id))
   else if c.k=4 then(if 0≤c.a∧c.a<t.attrs.length∧aW c.v=true then some (wrT t (gX t.rows c.row.id c.a.toNat c.v)) else none)
   else none
  else none
 else none
def runT(t:Tb):List Ch→Option Tb
 | []=>some t
 | c::l=>match av t c with
  | some u=>runT u l
  | none=>none
theorem cj(t:Tb)(l m:List Ch):runT t (l++m)=(runT t l).bind fun u=>runT u m:=by
 induction l generalizing t with
 | nil=>rfl
 | cons c l ih =>
  simp only[pg,runT]
  cases av t c with
  | none=>rfl
  | some u=>exact ih u
def jc(c:Ch):Bool:=decide (c.k=4)&&decide (atV c.row.vals c.a.toNat=c.v)
def lU(c:Ch):Ch:=if c.k=4 then⟨c.k,c.nm,⟨oF,[],[]⟩,c.row,c.a,c.v⟩ else⟨c.k,c.nm,⟨oF,[],[]⟩,c.row,0,vl0⟩
def cy(l:List Ch):List Ch:=(l.filter fun c=>!jc c).map lU
def kZ(c:Ch):Ch:=if c.k=2 then { c with k:=3 } else if c.k=3 then { c with k:=2 } else if c.k=4 then { c with row:=⟨c.row.id,c.row.vals.set c.a.toNat c.v⟩,v:=atV c.row.vals c.a.toNat } else c
theorem bV{t:Tb}(h:aG t=0):Srt t.rows:=(tbC h).ids
theorem jP{t:Tb}(h:aG t=0){rs:List Rw}(hl:rs.length≤1000)(hs:Srt rs)(hr:∀r∈rs,0<r.id∧r.vals.length=t.attrs.length∧r.vals.all aW=true):aG (wrT t rs)=0:=by
 have hw:=(tbC h).wide;have e:aG (wrT t rs)=(if bT t.name=true then(if 16<t.attrs.length∨1000<rs.length then 3 else if ec t.attrs=true then bj t.attrs.length 0 rs else 1) else 1):=rfl;rw[e];unfold aG at h;split at h
 ·rename_i h1;split at h
  ·cases h
  ·split at h
   ·rename_i h3;rw[if_pos h1,if_neg (by omega),if_pos h3]
    have:∀(rs:List Rw) (last:Int),(∀r∈rs,last<r.id∧r.vals.length=t.attrs.length∧r.vals.all aW=true)→Srt rs→bj t.attrs.length last rs=0:=by
     intro rs
     induction rs with
     | nil=>intros;rfl
     | cons r rs ih =>
      intro last h4 h5;obtain⟨a,b,c⟩:=h4 r ou;obtain⟨d,e⟩:=List.pairwise_cons.1 h5;rw[bj,if_neg (by omega),if_neg (by simp[b]),if_pos c];exact ih _ (fun s hs2=>⟨d s hs2,(h4 s (ow _ hs2)).2⟩) e
    exact this rs 0 hr hs
   ·cases h
 ·cases h
theorem cX{t:Tb}(h:aG t=0):t.rows.length≤1000:=by
 unfold aG at h;split at h
 ·split at h
  ·cases h
  ·omega
 ·cases h
theorem ay{t:Tb}(h:aG t=0):∀r∈t.rows,0<r.id∧r.vals.length=t.attrs.length∧r.vals.all aW=true:=fun r hr=>⟨(tbC h).pos r hr,(tbC h).len r hr,(tbC h).val r hr⟩
theorem dm{t:Tb}{r:Rw}(h:bX t r=0):r.vals.length=t.attrs.length∧0<r.id∧r.vals.all aW=true∧(∀s∈t.rows,¬s.id=r.id)∧t.rows.length<1000:=by
 unfold bX at h;split at h
 ·cases h
 ·rename_i h1;split at h
  ·cases h
  ·rename_i h2;split at h
   ·cases h
   ·rename_i h3;split at h
    ·cases h
    ·refine⟨by simpa using h1,by omega,?_,fun s hs e=>h3 (dX.2 ⟨s,hs,e⟩),by omega⟩;cases hq:r.vals.all aW
     ·exact absurd (.inr hq) h2
     ·rfl
theorem ins_len{t:Tb}(rs:List Rw)(r:Rw)(hn:∀s∈rs,¬s.id=r.id):(fw rs r).length=rs.length+1:=by
 induction rs with
 | nil=>rfl
 | cons s rs ih =>
  have h1:=hn s ou
  have h2:=ih fun s hs=>hn s (ow _ hs)
  simp only[fw,oT,og,rE]at h2 ⊢;by_cases h3:s.id<r.id
  ·rw[if_pos (by simpa using h3),if_neg (by simp;omega)];simp only[og];omega
  ·rw[if_neg (by simpa using h3),if_pos (by simp;omega)];simp only[og];omega
theorem et{t u:Tb}{c:Ch}(h:aG t=0)(hs:av t c=some u):aG u=0∧u.name=t.name∧u.attrs=t.attrs:=by
 have hsrt:=bV h;have hrow:=ay h;have hrl:=cX h;unfold av at hs;split at hs
 case isFalse=>cases hs
 split at hs
 ·split at hs
  case isFalse=>cases hs
  rename_i h2;obtain⟨a,b,c1,d,e⟩:=dm h2;cases hs;refine⟨jP h (by rw[ins_len (t:=t) _ _ d];omega) (srt_ins hsrt _) fun r hr=>?_,rfl,rfl⟩
  rcases fp.1 hr with rfl | ⟨hr,_⟩
  ·exact⟨b,a,c1⟩
  ·exact hrow r hr
 ·split at hs
  case isFalse=>cases hs
  split at hs
  ·cases hs;exact⟨jP h (pY (pf _ _) hrl) (srt_del hsrt _) fun r hr=>hrow r (fq.1 hr).1,rfl,rfl⟩
  ·split at hs
   case isFalse=>cases hs
   split at hs
   case isFalse=>cases hs
   rename_i h5;cases hs;refine⟨jP h (by rw[gX,oW];exact hrl) (srt_chg hsrt _ _ _) fun r hr=>?_,rfl,rfl⟩
   rcases mem_chg.1 hr with⟨hr,_⟩ | ⟨s,hs2,_,rfl⟩
   ·exact hrow r hr
   ·obtain⟨a,b,d⟩:=hrow s hs2;refine⟨a,by simpa using b,?_⟩;rw[pR]at d ⊢;intro x hx
    rcases pu hx with hx | rfl
    ·exact d x hx
    ·exact h5.2.2
theorem mX{t:Tb}(h:aG t=0){r:Rw}(hi:fN t r=true):r∈t.rows:=by
 unfold fN at hi;rw[oP,decide_eq_true_iff]at hi;obtain⟨h1,h2⟩:=hi;have h3:=gK h1
 have:r=atT t r.id:=by
  obtain⟨id,vs⟩:=r
  cases hq:atT t id with
  | mk id' vs' =>
   simp only[hq]at h2 h3;rw[←h2,←h3.1]
 rw[this];exact h3.2
theorem jW{t:Tb}(h:aG t=0){r:Rw}(hr:r∈t.rows):fN t r=true:=by
 obtain⟨a,b⟩:=atT_mem (bV h) hr;unfold fN;rw[a,b];simp
theorem step_inv{t u:Tb}{c:Ch}(h:aG t=0)(hs:av t c=some u):av u (kZ c)=some t:=by
 have hsrt:=bV h;have hrow:=ay h;have hrl:=cX h;obtain⟨hu,hn,hat⟩:=et h hs;unfold av at hs;split at hs
 case isFalse=>cases hs
 rename_i hnm;split at hs
 ·rename_i hk;split at hs
  case isFalse=>cases hs
  rename_i h2;obtain⟨a,b,c1,d,e⟩:=dm h2;cases hs;have hmem:c.row∈(wrT t (fw t.rows c.row)).rows:=fp.2 (.inl rfl);unfold kZ;rw[if_pos hk];unfold av;rw[if_pos (by simpa[wrT] using hnm),if_neg (by simp),if_pos (jW hu hmem),if_pos rfl];simp only[wrT];rw[del_ins hsrt d]
 ·rename_i hk;split at hs
  case isFalse=>cases hs
  rename_i hri;have hmem:=mX h hri;obtain⟨a,b,c1⟩:=hrow _ hmem;split at hs
  ·rename_i hk3;cases hs;unfold kZ;rw[if_neg hk,if_pos hk3];unfold av
   have hi:bX (wrT t (eE t.rows c.row.id)) c.row=0:=by
    unfold bX
    have hl:(eE t.rows c.row.id).length<t.rows.length:=by
     have h1:(eE t.rows c.row.id).length≤t.rows.length:=pf _ _
     rcases pS (eE t.rows c.row.id).length t.rows.length with h2 | h2
     ·exact h2
     ·exfalso;have h3:eE t.rows c.row.id=t.rows:=(List.filter_sublist).eq_of_length (by unfold eE at h1 h2;omega);have:=hmem;rw[←h3,fq]at this;exact this.2 rfl
    have hno:¬inT (wrT t (eE t.rows c.row.id)) c.row.id=true:=by
     rw[dX];rintro⟨r,hr,e⟩;exact(fq.1 hr).2 e
    rw[if_neg (by simp[wrT,b]),if_neg (by rw[c1];simp;omega),if_neg hno,if_neg (by simp only[wrT];omega)]
   rw[if_pos (by simpa[wrT] using hnm),if_pos rfl];simp only;rw[if_pos hi];simp only[wrT];rw[ins_del hsrt hmem]
  ·rename_i hk3;split at hs
   case isFalse=>cases hs
   rename_i hk4;split at hs
   case isFalse=>cases hs
   rename_i h5;cases hs
   have hal:c.a.toNat<c.row.vals.length:=by omega
   have hov:aW (atV c.row.vals c.a.toNat)=true:=by
    have:atV c.row.vals c.a.toNat=c.row.vals[c.a.toNat]:=by simp[atV,hal]
    rw[this];exact List.all_eq_true.1 c1 _ (oI hal)
   have hm2:(⟨c.row.id,c.row.vals.set c.a.toNat c.v⟩:Rw)∈(wrT t (gX t.rows c.row.id c.a.toNat c.v)).rows:=mem_chg.2 (.inr ⟨c.row,hmem,rfl,rfl⟩);unfold kZ;rw[if_neg hk,if_neg hk3,if_pos hk4];unfold av;simp only;rw[if_pos (by simpa[wrT] using hnm),if_neg hk,if_pos (jW hu hm2),if_neg hk3,if_pos hk4,if_pos ⟨h5.1,h5.2.1,hov⟩];simp only[wrT];rw[chg_chg hsrt hmem hal]
theorem step_nop{t u:Tb}{c:Ch}(h:aG t=0)(hs:av t c=some u)(hn:jc c=true):u=t:=by
 unfold jc at hn;rw[oP,decide_eq_true_iff,decide_eq_true_iff]at hn;obtain⟨hk4,hv⟩:=hn;unfold av at hs;split at hs
 case isFalse=>cases hs
 rw[if_neg (show ¬c.k=2 by omega)]at hs;split at hs
 case isFalse=>cases hs
 rename_i hri;rw[if_neg (show ¬c.k=3 by omega)]at hs;split at hs
 case isFalse=>cases hs
 rename_i h5;cases hs;have hmem:=mX h hri;have hl:=(ay h _ hmem).2.1
 have:gX t.rows c.row.id c.a.toNat c.v=t.rows:=by
  unfold gX
  conv=>rhs;rw[←rt t.rows]
  refine oo fun s hs2=>?_
  simp only[id];by_cases e:s.id=c.row.id
  ·obtain rfl:=ii (bV h) hs2 hmem e;rw[if_pos rfl,set_same (by omega) hv]
  ·rw[if_neg e]
 unfold wrT;rw[this]
theorem eff_snoc(l:List Ch)(c:Ch):cy (l++[c])=cy l++(if jc c=true then [] else [lU c]):=by
 unfold cy;rw[qC,oe];congr 1;cases hq:jc c<;>simp[List.filter,hq]
end
end Go.Proofs.YtdnhplencamncaaGreatDoor
namespace Go.Proofs.YtdnhplencamncaaGreatDoor
section
open Go Go.AM Go.RowKit
theorem fX{f:FuncId}{args:List V}{e z:Nat}(hE:AM.Enters Tryz.prog f)(h:∀(F:Nat→Prop) (w:World) (vals:Array Value),vals.size=args.length→(∀(i:Nat) a u,args[i]?=some a→vals[i]?=some u→Rel (AM.base F w) a u)→
  Calls Tryz.prog f vals w fun e' w'=>∃v,e' = .returned v∧Below w.heap.size w w'∧(v = .slice none 0 0∨∃g c cur,v = .slice (some ⟨g,0,none⟩) 0 c∧w.heap.size≤g∧w'.heap[g]?=some (.cells cur e (0,0))∧c≤maxLen∧cur.size=c*z)):dr Tryz.prog f args fun e' z' ys=>e'=e∧z'=z∧ys=[]:=by
 refine⟨hE,fun F w vals hZ hF hsz hrel=>(h F w vals hsz hrel).mono fun e' w' ⟨v,he,hb,hv⟩=>?_⟩
 rcases hv with hv | ⟨g,c,cur,hv,hg,hc,hm,hs⟩
 ·have hF':∀b,F b→b<w'.heap.size:=fun b hb'=>om (hF b hb') hb.size
  obtain⟨p1,_⟩:=lD (AM.base_good hF') (w:=w') 0 e z false rfl rfl rfl (oJ _) (fun _ _=>rfl);refine⟨v,e,z,[],none,0,0,he,hv,fun h=>absurd rfl h,by simp,fun h=>absurd rfl h,?_,hb,rfl,rfl,rfl⟩;refine⟨hF',fun k hk=>absurd (hk.2 e z [] false (by have:=hk.1;simp at this;subst this;rfl)) (by simp),fun j k hj hk _=>by have:=hj.1;have:=hk.1;simp at *;omega,fun k bl hk=>?_⟩
  have hk0:k=0:=by have:=aB hk;simp at this;omega
  subst hk0;simp at hk;subst hk;exact⟨#[],fun h=>absurd rfl h,by simp,by simp,by simp[maxLen],(fun x hx=>by cases hx),(fun i x j c u hx=>by simp at hx)⟩
 ·have hF':∀b,F b→b<w'.heap.size:=fun b hb'=>om (hF b hb') hb.size
  refine⟨v,e,z,[],some ⟨g,0,none⟩,g,c,he,hv,fun _=>rfl,by simp,fun _=>hg,?_,hb,rfl,rfl,rfl⟩;refine⟨hF',fun k hk=>⟨(Array.getElem?_eq_some_iff.1 hc).1,fun hf=>by have:=hF g hf;omega⟩,fun j k hj hk _=>by have:=hj.1;have:=hk.1;simp at *;omega,fun k bl hk=>?_⟩
  have hk0:k=0:=by have:=aB hk;simp at this;omega
  subst hk0;simp at hk;subst hk;exact⟨cur,fun _=>hc,by simpa using hs,by simp,hm,(fun x hx=>by cases hx),(fun i x j c u hx=>by simp at hx)⟩
theorem cap32c(n:Nat)(h:n≤1000000):n≤9223372036854775806∧(n+1)*32≤140737488355328:=by omega
theorem infoD_V:(Tryz.prog.info? 79).map (fun i=>(i.zero,i.size,i.bytes))=some (some (.agg #[.int .i64 0,.int .i64 0,.string ⟨#[]⟩]),3,32):=by kernel_rfl
theorem cloneE_V(A:Option Addr)(cap:Nat)(w:World):
  Calls Tryz.prog 75 #[.slice A 0 cap] w fun e w'=>∃v,e = .returned v∧w'.ownsRow w.heap.size 79 3 v 0 []∧Below w.heap.size w w':=by
 have hnil:=fun W A n c=>Lib.run_eql_slice_nil (P:=Tryz.prog) W 51 79 A n c 0 0 Tryz.underlying51
 cases A with
 | none =>
  go_enter Tryz.func75,Tryz.ntmps75
  go_wp2
  go_ret
  exact⟨_,rfl,World.ownsRow_nil _ _ _ _,Below.refl _ _⟩
 | some ad =>
  obtain⟨i0,hi,hz0,hz1,hz2⟩:=info_parts infoD_V;have hown:(w.alloc (.cells #[] 79)).ownsRow w.heap.size 79 3 (.slice (some ⟨w.heap.size,0,none⟩) 0 0) 0 []:=World.ownsRow_lit w #[] 0 (oJ _) (by simp[maxLen]) (by simp)
  have hnews:∀j u,([]:List Value)[j]?=some u→(w.alloc (.cells #[] 79)).cell? (ad.add j)=some u:=by
   intro j u hu;simp at hu
  have hone:∀u∈([]:List Value),u.oneCell'=true:=by intro u hu;cases hu
  have h63:0+0≤maxLen:=by simp[maxLen]
  have hby:(0+0)*32≤140737488355328:=by omega
  have hlen:([]:List Value).length=0*3:=by simp
  have Hi:=Lib.hid (show Tryz.prog.info? 79=some i0∧i0.zero=some _∧i0.size=3∧i0.bytes=32 from⟨hi,hz0,hz1,hz2⟩);have Hw:=Lib.hid (And.intro hown (And.intro hnews (And.intro hone (And.intro h63 (And.intro hby hlen)))));clear hnews hone hown hi hz0 hz1 hz2 h63 hby hlen
  go_enter Tryz.func75,Tryz.ntmps75
  go_wp2_with (at_builtin;refine wpList_append_own _ rfl _ _ 51 rfl w.heap.size 79 i0 _ 3 32 Tryz.underlying51 Hi.out.1 Hi.out.2.1 Hi.out.2.2.1 Hi.out.2.2.2 rfl (by omega) (.slice (some ⟨w.heap.size,0,none⟩) 0 0) 0 [] rfl Hw.out.1 ad 0 cap [] rfl Hw.out.2.2.2.2.2 Hw.out.2.1 Hw.out.2.2.1 Hw.out.2.2.2.1 Hw.out.2.2.2.2.1 (by simp) ?_;intro v1 w1 ho hg hn;have Ho:=Lib.hid ho;have Hg:=Lib.hid hg;have Hn:=Lib.hid hn;clear ho hg hn)
  go_ret
  exact⟨v1,rfl,by have:=Ho.out;simpa using this,((Below.refl _ _).alloc (oJ _) _).grown Hg.out (by simp) (by simp[Value.ownBlock])⟩
theorem cloneN_V:∀(f:Bool),aJ Tryz.prog 75 [.lst 3 f []] fun r=>r = .lst 3 false []:=fun f=>by
 have hO:dr Tryz.prog 75 [.lst 3 f []] fun e z ys=>e=79∧z=3∧ys=[]:=fX ⟨Tryz.f75,Tryz.func75,rfl,rfl⟩ (fun F w vals hsz hrel=>by
  obtain⟨u0,rfl⟩:∃u0,vals = #[u0]:=by
   obtain⟨l⟩:=vals
   match l,hsz with
   | [a],_=>exact⟨a,rfl⟩
  have r0:=hrel 0 _ u0 rfl rfl;cases r0
  refine(cloneE_V _ _ _).mono fun e' w' ⟨v,he,hown,hb⟩=>⟨v,he,hb,?_⟩
  obtain⟨_,⟨hv,_⟩ | ⟨g,c,cur,hv,hg,hc,hn,hm,hs,_⟩⟩:=hown
  ·exact .inl hv
  ·exact .inr ⟨g,c,cur,hv,hg,hc,hm,hs⟩)
 refine⟨hO.1,fun F w vals hZ hF hsz hrel=>((eM hO).2 F w vals hZ hF hsz hrel).mono fun e w' ⟨u,r,h1,h2,h3,h4,e',z,ys,h5,h6,h7,h8⟩=>?_⟩;subst h6;subst h7;subst h8;exact⟨u,r,h1,h2,h3,h4,h5⟩
theorem clone_V(l:List Vl)(f:Bool)(hl:l.length≤1000000):aJ Tryz.prog 75 [LV f l] fun r=>r=LV false l:=by
 cases l with
 | nil=>exact cloneN_V f
 | cons x xs =>
  have hl':xs.length≤1000000:=by simp only[og]at hl;omega
  refine sPx Tryz.func75 rfl rfl ?_;simp -dsimp[Tryz.f75,oE,LV,eK,cap32c xs.length (by omega),aF];exact gD rfl (by simp) (by simp)
theorem cloneO0_V(f:Bool):dr Tryz.prog 75 [.lst 3 f []] fun e z ys=>e=79∧z=3∧ys=[]:=fX ⟨Tryz.f75,Tryz.func75,rfl,rfl⟩ (fun F w vals hsz hrel=>by
  obtain⟨u0,rfl⟩:∃u0,vals = #[u0]:=by
   obtain⟨l⟩:=vals
   match l,hsz with
   | [a],_=>exact⟨a,rfl⟩
  have r0:=hrel 0 _ u0 rfl rfl;cases r0
  refine(cloneE_V _ _ _).mono fun e' w' ⟨v,he,hown,hb⟩=>⟨v,he,hb,?_⟩
  obtain⟨_,⟨hv,_⟩ | ⟨g,c,cur,hv,hg,hc,hn,hm,hs,_⟩⟩:=hown
  ·exact .inl hv
  ·exact .inr ⟨g,c,cur,hv,hg,hc,hm,hs⟩)
theorem cloneO_V(l:List Vl)(f:Bool)(hl:l.length≤1000000):dr Tryz.prog 75 [.lst 3 f (l.map aF)] fun e z ys=>e=79∧z=3∧ys=l.map aF:=by
 cases l with
 | nil=>exact cloneO0_V f
 | cons x xs =>
  have hl':xs.length≤1000000:=by simp only[og]at hl;omega
  refine sOx Tryz.func75 rfl rfl ?_;simp -dsimp[Tryz.f75,oE,eK,cap32c xs.length (by omega),aF];exact⟨0,79,3,aF x::xs.map aF,by simp,rfl,by simp,rfl,rfl,rfl⟩
theorem cap16c(n:Nat)(h:n≤1000000):n≤9223372036854775806∧(n+1)*16≤140737488355328:=by omega
theorem infoD_S:(Tryz.prog.info? 9).map (fun i=>(i.zero,i.size,i.bytes))=some (some (.string ⟨#[]⟩),1,16):=by kernel_rfl
theorem cloneE_S(A:Option Addr)(cap:Nat)(w:World):
  Calls Tryz.prog 56 #[.slice A 0 cap] w fun e w'=>∃v,e = .returned v∧w'.ownsRow w.heap.size 9 1 v 0 []∧Below w.heap.size w w':=by
 have hnil:=fun W A n c=>Lib.run_eql_slice_nil (P:=Tryz.prog) W 29 9 A n c 0 0 Tryz.underlying29
 cases A with
 | none =>
  go_enter Tryz.func56,Tryz.ntmps56
  go_wp2
  go_ret
  exact⟨_,rfl,World.ownsRow_nil _ _ _ _,Below.refl _ _⟩
 | some ad =>
  obtain⟨i0,hi,hz0,hz1,hz2⟩:=info_parts infoD_S;have hown:(w.alloc (.cells #[] 9)).ownsRow w.heap.size 9 1 (.slice (some ⟨w.heap.size,0,none⟩) 0 0) 0 []:=World.ownsRow_lit w #[] 0 (oJ _) (by simp[maxLen]) (by simp)
  have hnews:∀j u,([]:List Value)[j]?=some u→(w.alloc (.cells #[] 9)).cell? (ad.add j)=some u:=by
   intro j u hu;simp at hu
  have hone:∀u∈([]:List Value),u.oneCell'=true:=by intro u hu;cases hu
  have h63:0+0≤maxLen:=by simp[maxLen]
  have hby:(0+0)*16≤140737488355328:=by omega
  have hlen:([]:List Value).length=0*1:=by simp
  have Hi:=Lib.hid (show Tryz.prog.info? 9=some i0∧i0.zero=some _∧i0.size=1∧i0.bytes=16 from⟨hi,hz0,hz1,hz2⟩);have Hw:=Lib.hid (And.intro hown (And.intro hnews (And.intro hone (And.intro h63 (And.intro hby hlen)))));clear hnews hone hown hi hz0 hz1 hz2 h63 hby hlen
  go_enter Tryz.func56,Tryz.ntmps56
  go_wp2_with (at_builtin;refine wpList_append_own _ rfl _ _ 29 rfl w.heap.size 9 i0 _ 1 16 Tryz.underlying29 Hi.out.1 Hi.out.2.1 Hi.out.2.2.1 Hi.out.2.2.2 rfl (by omega) (.slice (some ⟨w.heap.size,0,none⟩) 0 0) 0 [] rfl Hw.out.1 ad 0 cap [] rfl Hw.out.2.2.2.2.2 Hw.out.2.1 Hw.out.2.2.1 Hw.out.2.2.2.1 Hw.out.2.2.2.2.1 (by simp) ?_;intro v1 w1 ho hg hn;have Ho:=Lib.hid ho;have Hg:=Lib.hid hg;have Hn:=Lib.hid hn;clear ho hg hn)
  go_ret
  exact⟨v1,rfl,by have:=Ho.out;simpa using this,((Below.refl _ _).alloc (oJ _) _).grown Hg.out (by simp) (by simp[Value.ownBlock])⟩
theorem cloneN_S:∀(f:Bool),aJ Tryz.prog 56 [.lst 1 f []] fun r=>r = .lst 1 false []:=fun f=>by
 have hO:dr Tryz.prog 56 [.lst 1 f []] fun e z ys=>e=9∧z=1∧ys=[]:=fX ⟨Tryz.f56,Tryz.func56,rfl,rfl⟩ (fun F w vals hsz hrel=>by
  obtain⟨u0,rfl⟩:∃u0,vals = #[u0]:=by
   obtain⟨l⟩:=vals
   match l,hsz with
   | [a],_=>exact⟨a,rfl⟩
  have r0:=hrel 0 _ u0 rfl rfl;cases r0
  refine(cloneE_S _ _ _).mono fun e' w' ⟨v,he,hown,hb⟩=>⟨v,he,hb,?_⟩
  obtain⟨_,⟨hv,_⟩ | ⟨g,c,cur,hv,hg,hc,hn,hm,hs,_⟩⟩:=hown
  ·exact .inl hv
  ·exact .inr ⟨g,c,cur,hv,hg,hc,hm,hs⟩)
 refine⟨hO.1,fun F w vals hZ hF hsz hrel=>((eM hO).2 F w vals hZ hF hsz hrel).mono fun e w' ⟨u,r,h1,h2,h3,h4,e',z,ys,h5,h6,h7,h8⟩=>?_⟩;subst h6;subst h7;subst h8;exact⟨u,r,h1,h2,h3,h4,h5⟩
theorem jz(l:List ByteArray)(f:Bool)(hl:l.length≤1000000):aJ Tryz.prog 56 [LS f l] fun r=>r=LS false l:=by
 cases l with
 | nil=>exact cloneN_S f
 | cons x xs =>
  have hl':xs.length≤1000000:=by simp only[og]at hl;omega
  refine sPx Tryz.func56 rfl rfl ?_;simp -dsimp[Tryz.f56,oE,LS,eK,cap16c xs.length (by omega),V.str];exact gD rfl (by simp) (by simp)
end
end Go.Proofs.YtdnhplencamncaaGreatDoor
namespace Go.Proofs.YtdnhplencamncaaGreatDoor
section
open Go Go.AM Go.RowKit Go.Lib
theorem infoG_R:(Tryz.prog.info? 53).map (fun i=>(i.zero,i.size,i.bytes))=some (some (.agg #[.int .i64 0,.slice none 0 0]),2,32):=by kernel_rfl
theorem growPos_R(n:Nat)(w:World)(h0:0<n)(hn:n≤1000000):Calls Tryz.prog 249 #[.slice none 0 0,.int .i64 n] w fun e w' =>
   e = .returned (.slice (some ⟨w.heap.size,0,none⟩) 0 (grownCap w n 0 53))∧w'=w.drew.alloc (.cells (Builtin.zeroCells (.agg #[.int .i64 0,.slice none 0 0]:Value).cells n++Builtin.zeroCells (.agg #[.int .i64 0,.slice none 0 0]:Value).cells (grownCap w n 0 53-n)) 53):=by
 obtain⟨i0,hi0,hz0,hs0,hby⟩:=info_parts infoG_R
 have h1:¬((n:Int)<0):=by omega
 have hz25:∀w,(Go.sizeOf 53).run Tryz.prog w = .ok 2 w:=fun w=>by simp[Go.sizeOf,typeInfo,hi0,hs0]
 have hold:(Builtin.firstCells i0.size 0 (.slice none 0 0)).run Tryz.prog w.drew = .ok ([]:List Value).toArray w.drew:=run_firstCells_none w.drew i0.size 0 0 0
 have hbig:(0+n)*i0.bytes≤140737488355328:=by rw[hby];omega
 have hrz:∀ty,(Builtin.append_ #[30,3] ty #[.slice none 0 0,.int .i64 (n:Int)]).run Tryz.prog w =
   .ok (.slice (some ⟨w.heap.size,0,none⟩) n (grownCap w n 0 53)) (w.drew.alloc (.cells (Builtin.zeroCells (.agg #[.int .i64 0,.slice none 0 0]:Value).cells n++Builtin.zeroCells (.agg #[.int .i64 0,.slice none 0 0]:Value).cells (grownCap w n 0 53-n)) 53)):=fun ty=>by
  have h:=Lib.run_append_grow_zeros (P:=Tryz.prog) w 30 3 ty 53 i0 _ .i64 .i64 Tryz.underlying30 Tryz.underlying3 hi0 hz0 none 0 0 [] hold n h0 (by omega) (by omega) (by omega)
   (by rw[hby];omega)
   (growslice_fits (by omega) hbig)
  simpa using h
 have hGn:n≤grownCap w n 0 53:=grownCap_ge w _ _ _;obtain⟨G,hG⟩:∃G,G=grownCap w n 0 53:=⟨_,rfl⟩;rw[←hG]at hrz hGn ⊢
 have hG63:G≤9223372036854775807:=by
  have:=grownCap_le_maxLen w n 0 53 (by unfold maxLen;omega);rw[←hG]at this;unfold maxLen at this;omega
 have h2:RowKit.wrap64 ((0:Int)-0)=0:=by unfold RowKit.wrap64;omega
 have h3:RowKit.wrap64 ((n:Int)-0)=(n:Int):=by unfold RowKit.wrap64;omega
 have h4:(n:Int)> 0:=by omega
 clear hold hG hbig
 go_enter Tryz.func249,Tryz.ntmps249
 go_wp2_with (at_builtin;refine Lib.wpList_append_run _ rfl _ _ _ _ rfl _ _ rfl rfl _ _ (hrz _) ?_)
 all_goals (go_ret;exact⟨rfl,rfl⟩)
theorem growNil_R(w:World):Calls Tryz.prog 249 #[.slice none 0 0,.int .i64 0] w fun e w'=>e = .returned (.slice none 0 0)∧w'=w:=by
 go_enter Tryz.func249,Tryz.ntmps249
 go_wp2
 go_ret
 exact⟨rfl,rfl⟩
theorem grow_con_R(n:Nat)(hn:n≤1000000):dr Tryz.prog 249 [.nilS,.int .i64 n] fun e z ys=>e=53∧z=2∧ys=[]:=by
 refine fY ⟨Tryz.f249,Tryz.func249,rfl,rfl⟩ (fun F w vals hsz hrel=>?_)
 obtain⟨u0,u1,rfl⟩:∃u0 u1,vals = #[u0,u1]:=by
  obtain⟨l⟩:=vals
  match l,hsz with
  | [a,b],_=>exact⟨a,b,rfl⟩
 have r0:=hrel 0 _ u0 rfl rfl;have r1:=hrel 1 _ u1 rfl rfl;cases r0;cases r1;by_cases h0:n=0
 ·subst h0
  exact(growNil_R w).mono fun e w' ⟨h1,h2⟩=>⟨_,h1,by subst h2;exact Below.refl _ _,.inl rfl⟩
 ·refine(growPos_R n w (by omega) hn).mono fun e w' ⟨h1,h2⟩=>?_
  subst h2;have hge:=grownCap_ge w n 0 53;refine⟨_,h1,((Below.refl _ _).drew).alloc (oJ _) _,.inr ⟨w.heap.size,grownCap w n 0 53,Builtin.zeroCells (.agg #[.int .i64 0,.slice none 0 0]:Value).cells n++Builtin.zeroCells (.agg #[.int .i64 0,.slice none 0 0]:Value).cells (grownCap w n 0 53-n),rfl,oJ _,?_,by omega,grownCap_le_maxLen w n 0 53 (by unfold maxLen;omega),?_⟩⟩
  ·exact qR (xs:=w.heap)
  ·rw[qN,size_zeroCells,size_zeroCells,←ov,qb hge];rfl
end
end Go.Proofs.YtdnhplencamncaaGreatDoor
