/- JM23: own texts of this seat, joined and shortened by pack4.py: CatR, PS, GrG, CatG, TJ, TK, ClB, Rbm, PG, TI, PE, Sva, Svb, GrZ, Gr. -/
import Derived.Test.YtdnhplencamncaaGreatDoorJM15
import Derived.WalkKit
import Derived.Lib.Walk
import Derived.Lib.SliceRun
import Derived.Lib.AppendZerosOnto
import Derived.OwnWalk
import Derived.WalkSpells
import Derived.WalkLawsBesides
import Derived.Lib.Hide
import Derived.Maps.AppendAt
set_option linter.unusedVariables false
set_option linter.unusedSimpArgs false
set_option maxRecDepth 100000
set_option maxHeartbeats 64000000
open Array renaming size_append→qN,getElem?_push_size→qR
open Bool renaming true_and→pE,false_and→pF,or_eq_true→pW,not_eq_true'→pZ,eq_iff_iff→qS
open ByteArray renaming empty→oF
open List renaming replicate→oE,getElem_mem→oI,drop_eq_getElem_cons→oK,range→oM,take_succ_eq_append_getElem→oN,not_mem_nil→oO,mem_cons→oR,length_append→oT,append_nil→oU,take_length→oY,map_append→oe,length_cons→og,map_congr_left→oo,map_cons→oq,length_take→ot,mem_cons_self→ou,mem_cons_of_mem→ow,take_of_length_le→pA,drop_zero→pC,nil_append→pH,map_nil→pJ,getElem?_eq_none→pK,mem_of_mem_take→pQ,all_eq_true→pR,ext_getElem?→pT,take_append_drop→pc,length_filter_le→pf,cons_append→pg,filter_append→qC,mem_filter→qF,getElem_map→qM,any_cons→qW,getElem?_set→qY,flatMap_cons→qh,flatten_append→qj,map_map→qu,filter_cons→rE,any_eq_false→rX,all_cons→rh,map_id→rt
open Nat renaming le_refl→oJ,add_mul→ov,min_eq_left→qE,add_sub_cancel'→qb
open Option renaming bind_some→qe
namespace Go.Proofs.YtdnhplencamncaaGreatDoor
section
open Go Go.AM Go.RowKit
structure FlVR where
 f:Bool
 xs:List V
def dz(l:FlVR):V:=.lst 2 l.f l.xs
def cM(ls:List FlVR):List V:=(ls.map (·.xs)).flatten
theorem np(ls:List FlVR)(i:Nat)(h:i<ls.length):cM (ls.take (i+1))=cM (ls.take i)++ls[i].xs:=by
 unfold cM;rw[oN h,oe,qj];simp
theorem catL_leR(ls:List FlVR)(i:Nat):(cM (ls.take i)).length≤(cM ls).length:=by
 conv=>rhs;rw[←pc i ls]
 unfold cM;rw[oe,qj,oT];omega
theorem jD{ls:List FlVR}(hp:∀l∈ls,∀x∈l.xs,AM.Pure x∧cT x=true∧x.cells.length=2):∀x∈cM ls,AM.Pure x∧cT x=true:=by
 intro x hx;obtain⟨l,hl,h⟩:=List.mem_flatten.1 hx;obtain⟨y,hy,rfl⟩:=List.mem_map.1 hl;exact⟨(hp y hy x h).1,(hp y hy x h).2.1⟩
theorem catW_R(n:Nat)(h:n≤1000000):n≤9223372036854775807∧n*32≤140737488355328:=by omega
theorem concat_R(ls:List FlVR)(g:Bool)(hp:∀l∈ls,∀x∈l.xs,AM.Pure x∧cT x=true∧x.cells.length=2)(hl:ls.length≤1000000)(hs:(cM ls).length≤1000000):aJ Tryz.prog 203 [.lst 1 g (ls.map dz)] fun r=>r = .lst 2 false (cM ls):=by
 have htl:=fun i=>catL_leR ls i
 have hpF:∀l∈ls,AM.Pure (dz l):=fun l hl=>.lst _ _ _ (fun x hx=>(hp l hl x hx).1)
 refine sPx Tryz.func203 rfl rfl ?_;simp -dsimp[Tryz.f203,oE,dz];refine aI (W_loopM 23 0x7ff828 (by simp[mB]<;>rfl) (σ:=Nat) (fun i=>i≤ls.length) (fun i=>ls.length-i) (fun i=>[(11,.int .i64 i),(3,.int .i64 ((cM (ls.take i)).length:Nat))]) (fun _=>[]) 0 (by omega) (by simp[cM]) rfl (by simp) ?_);intro i hi N Q hN hQ;by_cases hb:i<ls.length
 ·have hsu:=np ls i hb;have h1:=htl i;have h2:=htl (i+1);rw[hsu,oT]at h2;obtain⟨c,hc⟩:∃c,c=(cM (ls.take i)).length:=⟨_,rfl⟩;rw[←hc]at h1 h2
  have hlx:(cM (ls.take (i+1))).length=c+ls[i].xs.length:=by rw[hsu,oT,hc]
  obtain⟨x,hx⟩:∃x,x=ls[i]:=⟨_,rfl⟩;rw[←hx]at h2 hlx;have hx':=hx.symm;obtain⟨d,hd⟩:∃d,d=c+x.xs.length:=⟨_,rfl⟩
  have hw:IntKind.i64.wrap ((c:Int)+(x.xs.length:Int))=(d:Int):=by rw[wrap64 (by omega) (by omega),hd];push_cast;rfl
  refine wx ?_;simp -dsimp[hb,hx',hw,show ¬(d:Int)<0 by omega,aP i (by omega),←hc,dz];refine hN (i+1) _ _ (by omega) (by omega) (by simp[hlx,hd]) ⟨[],rfl⟩ (by simp;exact hpF) (by simp)
 ·obtain rfl:i=ls.length:=by omega
  rw[oY];have hg:=fb (H:=[]) (grow_con_R (cM ls).length hs) (by simp);refine wx ?_;simp -dsimp[hb,dz];refine hQ _ _ _ ?_;simp -dsimp[dz];refine hg.mono ?_;rintro r H' ⟨e,z,xs,rfl,rfl,_,rfl,rfl,rfl⟩;simp -dsimp[dz];refine aI (W_loopM 35 0x7f8000140 (by simp[mB]<;>rfl) (σ:=Nat) (fun i=>i≤ls.length) (fun i=>ls.length-i) (fun i=>[(27,.int .i64 i),(6,.buf 0 0 (cM (ls.take i)).length (cM (ls.take i)).length)]) (fun i=>[B.buf 53 2 (cM (ls.take i)) false]) 0 (by omega) (by simp[cM]) (by simp[cM]) (by simp) ?_);intro i hi N2 Q2 hN2 hQ2;by_cases hb:i<ls.length
  ·have hsu:=np ls i hb;have h2:=htl (i+1);have hpi:=hp ls[i] (oI hb);have hpc:=jD (ls:=ls.take (i+1)) (fun l hl=>hp l (pQ hl));obtain⟨x,hx⟩:∃x,x=ls[i]:=⟨_,rfl⟩;rw[←hx]at hsu hpi;have hx':=hx.symm;rw[hsu]at h2 hpc;obtain⟨xs,hxs⟩:∃xs,xs=x.xs:=⟨_,rfl⟩;have hxs':=hxs.symm;rw[←hxs]at hsu h2 hpc hpi;by_cases h0:xs=[]
   ·rw[h0,oU]at hsu;refine wx ?_;simp -dsimp[hb,hx',hxs',h0,aP i (by omega),dz];refine hN2 (i+1) _ _ (by omega) (by omega) (by simp[hsu]) ⟨[],by simp[hsu]⟩ (by simp;exact hpF) (by rw[h0,oU]at hpc;intro bl hbl;rcases List.mem_cons.1 hbl with rfl | hbl;exact(rbB_buf1 (by rw[hsu];exact hpc)).2 trivial;cases hbl)
   ·obtain⟨c,hc⟩:∃c,c=cM (ls.take i):=⟨_,rfl⟩;rw[←hc]at hsu h2 hpc;rw[oT]at h2;refine wx ?_;simp -dsimp[hb,hx',hxs',h0,aP i (by omega),←hc,catW_R (c.length+xs.length) (by omega),dz];refine hN2 (i+1) _ _ (by omega) (by omega) (by simp[hsu]) ⟨[],by simp[hsu]⟩ (by simp;exact hpF) (by intro bl hbl;rcases List.mem_cons.1 hbl with rfl | hbl;exact(rbB_buf1 (by rw[hsu];exact hpc)).2 trivial;cases hbl)
  ·obtain rfl:i=ls.length:=by omega
   rw[oY];refine wx ?_;simp -dsimp[hb,dz];refine hQ2 _ _ _ ?_;simp -dsimp[dz];exact⟨gD rfl rfl (fun x hx=>(jD hp x hx).1),fun x hx=>(jD hp x hx).1⟩
end
end Go.Proofs.YtdnhplencamncaaGreatDoor
namespace Go.Proofs.YtdnhplencamncaaGreatDoor
section
open Go Go.AM
theorem stringsEq_u(a b:List ByteArray)(f g:Bool)(hl:a.length≤1000000):aJ Tryz.prog 32 [LS f a,LS g b] fun r=>r = .bool (iV a b):=by
 unfold iV;by_cases h0:a.length=b.length
 ·rw[decide_eq_true h0,pE]
  obtain⟨E,hE⟩:∃E,E=(oM a.length).all fun i=>dH (sAt a i) (sAt b i):=⟨_,rfl⟩
  rw[←hE];refine sPx Tryz.func32 rfl rfl ?_;simp -dsimp[Tryz.f32,oE,LS,h0];refine aI (W_loopM 26 0x3ffe030 (by simp[mB]<;>rfl) (σ:=Nat) (fun i=>i≤a.length∧(oM i).all (fun i=>dH (sAt a i) (sAt b i))=true) (fun i=>a.length-i) (fun i=>[(13,.int .i64 i)]) (fun _=>[]) 0 ⟨by omega,rfl⟩ (by simp) rfl (by simp) ?_);rintro i ⟨hi,hall⟩ N Q hN hQ;by_cases hb:i<a.length
  ·have hb2:i<b.length:=by omega
   have ha1:sAt a i=a[i]:=by simp[sAt,hb]
   have ha2:sAt b i=b[i]:=by simp[sAt,hb2]
   cases hq:(a[i].toList == b[i].toList) with
   | true =>
    refine wx ?_;simp -dsimp[hb,hb2,hq];refine .inr ⟨aS (by kernel_rfl),?_⟩;simp -dsimp[aP i (by omega)];refine hN (i+1) _ _ ⟨by omega,bt hall (by unfold dH;rw[ha1,ha2,hq])⟩ (by omega) (by simp) ⟨[],rfl⟩ (by simp) (by simp)
   | false =>
    have hno:(oM a.length).all (fun i=>dH (sAt a i) (sAt b i))=false:=by
     cases hh:(oM a.length).all (fun i=>dH (sAt a i) (sAt b i))
     ·rfl
     ·have:=List.all_eq_true.1 hh i (by simpa using hb);rw[dH,ha1,ha2,hq]at this;cases this
    rw[hno]at hE;refine wx ?_;simp -dsimp[hb,hb2,hq];refine .inr ⟨aS (by kernel_rfl),?_⟩;refine hQ _ _ _ ?_;simp -dsimp[];exact hE
  ·obtain rfl:i=a.length:=by omega
   rw[hall]at hE;refine wx ?_;simp -dsimp[hb,h0];refine hQ _ _ _ ?_;simp -dsimp[];exact hE
 ·rw[decide_eq_false h0,pF];refine sPx Tryz.func32 rfl rfl ?_;simp -dsimp[Tryz.f32,oE,LS,show ¬((a.length:Int)=b.length) by omega]
end
end Go.Proofs.YtdnhplencamncaaGreatDoor
namespace Go.Proofs.YtdnhplencamncaaGreatDoor
section
open Go Go.AM Go.RowKit Go.Lib
theorem infoG_G:(Tryz.prog.info? 81).map (fun i=>(i.zero,i.size,i.bytes))=some (some (.agg #[.int .i64 0,.string ⟨#[]⟩,.string ⟨#[]⟩,.slice none 0 0,.slice none 0 0,.int .i64 0,.slice none 0 0,.int .i64 0,.int .i64 0,.int .i64 0,.string ⟨#[]⟩]),11,160):=by kernel_rfl
theorem growPos_G(n:Nat)(w:World)(h0:0<n)(hn:n≤1000000):Calls Tryz.prog 76 #[.slice none 0 0,.int .i64 n] w fun e w' =>
   e = .returned (.slice (some ⟨w.heap.size,0,none⟩) 0 (grownCap w n 0 81))∧w'=w.drew.alloc (.cells (Builtin.zeroCells (.agg #[.int .i64 0,.string ⟨#[]⟩,.string ⟨#[]⟩,.slice none 0 0,.slice none 0 0,.int .i64 0,.slice none 0 0,.int .i64 0,.int .i64 0,.int .i64 0,.string ⟨#[]⟩]:Value).cells n++Builtin.zeroCells (.agg #[.int .i64 0,.string ⟨#[]⟩,.string ⟨#[]⟩,.slice none 0 0,.slice none 0 0,.int .i64 0,.slice none 0 0,.int .i64 0,.int .i64 0,.int .i64 0,.string ⟨#[]⟩]:Value).cells (grownCap w n 0 81-n)) 81):=by
 obtain⟨i0,hi0,hz0,hs0,hby⟩:=info_parts infoG_G
 have h1:¬((n:Int)<0):=by omega
 have hz25:∀w,(Go.sizeOf 81).run Tryz.prog w = .ok 11 w:=fun w=>by simp[Go.sizeOf,typeInfo,hi0,hs0]
 have hold:(Builtin.firstCells i0.size 0 (.slice none 0 0)).run Tryz.prog w.drew = .ok ([]:List Value).toArray w.drew:=run_firstCells_none w.drew i0.size 0 0 0
 have hbig:(0+n)*i0.bytes≤140737488355328:=by rw[hby];omega
 have hrz:∀ty,(Builtin.append_ #[55,3] ty #[.slice none 0 0,.int .i64 (n:Int)]).run Tryz.prog w =
   .ok (.slice (some ⟨w.heap.size,0,none⟩) n (grownCap w n 0 81)) (w.drew.alloc (.cells (Builtin.zeroCells (.agg #[.int .i64 0,.string ⟨#[]⟩,.string ⟨#[]⟩,.slice none 0 0,.slice none 0 0,.int .i64 0,.slice none 0 0,.int .i64 0,.int .i64 0,.int .i64 0,.string ⟨#[]⟩]:Value).cells n++Builtin.zeroCells (.agg #[.int .i64 0,.string ⟨#[]⟩,.string ⟨#[]⟩,.slice none 0 0,.slice none 0 0,.int .i64 0,.slice none 0 0,.int .i64 0,.int .i64 0,.int .i64 0,.string ⟨#[]⟩]:Value).cells (grownCap w n 0 81-n)) 81)):=fun ty=>by
  have h:=Lib.run_append_grow_zeros (P:=Tryz.prog) w 55 3 ty 81 i0 _ .i64 .i64 Tryz.underlying55 Tryz.underlying3 hi0 hz0 none 0 0 [] hold n h0 (by omega) (by omega) (by omega)
   (by rw[hby];omega)
   (growslice_fits (by omega) hbig)
  simpa using h
 have hGn:n≤grownCap w n 0 81:=grownCap_ge w _ _ _;obtain⟨G,hG⟩:∃G,G=grownCap w n 0 81:=⟨_,rfl⟩;rw[←hG]at hrz hGn ⊢
 have hG63:G≤9223372036854775807:=by
  have:=grownCap_le_maxLen w n 0 81 (by unfold maxLen;omega);rw[←hG]at this;unfold maxLen at this;omega
 have h2:RowKit.wrap64 ((0:Int)-0)=0:=by unfold RowKit.wrap64;omega
 have h3:RowKit.wrap64 ((n:Int)-0)=(n:Int):=by unfold RowKit.wrap64;omega
 have h4:(n:Int)> 0:=by omega
 clear hold hG hbig
 go_enter Tryz.func76,Tryz.ntmps76
 go_wp2_with (at_builtin;refine Lib.wpList_append_run _ rfl _ _ _ _ rfl _ _ rfl rfl _ _ (hrz _) ?_)
 all_goals (go_ret;exact⟨rfl,rfl⟩)
theorem growNil_G(w:World):Calls Tryz.prog 76 #[.slice none 0 0,.int .i64 0] w fun e w'=>e = .returned (.slice none 0 0)∧w'=w:=by
 go_enter Tryz.func76,Tryz.ntmps76
 go_wp2
 go_ret
 exact⟨rfl,rfl⟩
theorem nC(n:Nat)(hn:n≤1000000):dr Tryz.prog 76 [.nilS,.int .i64 n] fun e z ys=>e=81∧z=11∧ys=[]:=by
 refine fY ⟨Tryz.f76,Tryz.func76,rfl,rfl⟩ (fun F w vals hsz hrel=>?_)
 obtain⟨u0,u1,rfl⟩:∃u0 u1,vals = #[u0,u1]:=by
  obtain⟨l⟩:=vals
  match l,hsz with
  | [a,b],_=>exact⟨a,b,rfl⟩
 have r0:=hrel 0 _ u0 rfl rfl;have r1:=hrel 1 _ u1 rfl rfl;cases r0;cases r1;by_cases h0:n=0
 ·subst h0
  exact(growNil_G w).mono fun e w' ⟨h1,h2⟩=>⟨_,h1,by subst h2;exact Below.refl _ _,.inl rfl⟩
 ·refine(growPos_G n w (by omega) hn).mono fun e w' ⟨h1,h2⟩=>?_
  subst h2;have hge:=grownCap_ge w n 0 81;refine⟨_,h1,((Below.refl _ _).drew).alloc (oJ _) _,.inr ⟨w.heap.size,grownCap w n 0 81,Builtin.zeroCells (.agg #[.int .i64 0,.string ⟨#[]⟩,.string ⟨#[]⟩,.slice none 0 0,.slice none 0 0,.int .i64 0,.slice none 0 0,.int .i64 0,.int .i64 0,.int .i64 0,.string ⟨#[]⟩]:Value).cells n++Builtin.zeroCells (.agg #[.int .i64 0,.string ⟨#[]⟩,.string ⟨#[]⟩,.slice none 0 0,.slice none 0 0,.int .i64 0,.slice none 0 0,.int .i64 0,.int .i64 0,.int .i64 0,.string ⟨#[]⟩]:Value).cells (grownCap w n 0 81-n),rfl,oJ _,?_,by omega,grownCap_le_maxLen w n 0 81 (by unfold maxLen;omega),?_⟩⟩
  ·exact qR (xs:=w.heap)
  ·rw[qN,size_zeroCells,size_zeroCells,←ov,qb hge];rfl
theorem grow_nil_G:aJ Tryz.prog 76 [.nilS,.int .i64 0] fun r=>r = .nilS:=by
 refine⟨⟨Tryz.f76,Tryz.func76,rfl,rfl⟩,fun F w vals hZ hF hsz hrel=>?_⟩
 obtain⟨u0,u1,rfl⟩:∃u0 u1,vals = #[u0,u1]:=by
  obtain⟨l⟩:=vals
  match l,hsz with
  | [a,b],_=>exact⟨a,b,rfl⟩
 have r0:=hrel 0 _ u0 rfl rfl;have r1:=hrel 1 _ u1 rfl rfl;cases r0;cases r1
 refine(growNil_G w).mono fun e w' ⟨h1,h2⟩=>⟨_,_,h1,.nilS,.nilS,by subst h2;exact Below.refl _ _,rfl⟩
end
end Go.Proofs.YtdnhplencamncaaGreatDoor
namespace Go.Proofs.YtdnhplencamncaaGreatDoor
section
open Go Go.AM Go.RowKit
structure FlVG where
 f:Bool
 xs:List V
def eB(l:FlVG):V:=.lst 11 l.f l.xs
def cS(ls:List FlVG):List V:=(ls.map (·.xs)).flatten
theorem nq(ls:List FlVG)(i:Nat)(h:i<ls.length):cS (ls.take (i+1))=cS (ls.take i)++ls[i].xs:=by
 unfold cS;rw[oN h,oe,qj];simp
theorem catL_leG(ls:List FlVG)(i:Nat):(cS (ls.take i)).length≤(cS ls).length:=by
 conv=>rhs;rw[←pc i ls]
 unfold cS;rw[oe,qj,oT];omega
theorem jE{ls:List FlVG}(hp:∀l∈ls,∀x∈l.xs,AM.Pure x∧cT x=true∧x.cells.length=11):∀x∈cS ls,AM.Pure x∧cT x=true:=by
 intro x hx;obtain⟨l,hl,h⟩:=List.mem_flatten.1 hx;obtain⟨y,hy,rfl⟩:=List.mem_map.1 hl;exact⟨(hp y hy x h).1,(hp y hy x h).2.1⟩
theorem catW_G(n:Nat)(h:n≤1000000):n≤9223372036854775807∧n*160≤140737488355328:=by omega
theorem concat_G(ls:List FlVG)(g:Bool)(hp:∀l∈ls,∀x∈l.xs,AM.Pure x∧cT x=true∧x.cells.length=11)(hl:ls.length≤1000000)(hs:(cS ls).length≤1000000):aJ Tryz.prog 35 [.lst 1 g (ls.map eB)] fun r=>r = .lst 11 false (cS ls):=by
 have htl:=fun i=>catL_leG ls i
 have hpF:∀l∈ls,AM.Pure (eB l):=fun l hl=>.lst _ _ _ (fun x hx=>(hp l hl x hx).1)
 refine sPx Tryz.func35 rfl rfl ?_;simp -dsimp[Tryz.f35,oE,eB];refine aI (W_loopM 23 0x7ff828 (by simp[mB]<;>rfl) (σ:=Nat) (fun i=>i≤ls.length) (fun i=>ls.length-i) (fun i=>[(11,.int .i64 i),(3,.int .i64 ((cS (ls.take i)).length:Nat))]) (fun _=>[]) 0 (by omega) (by simp[cS]) rfl (by simp) ?_);intro i hi N Q hN hQ;by_cases hb:i<ls.length
 ·have hsu:=nq ls i hb;have h1:=htl i;have h2:=htl (i+1);rw[hsu,oT]at h2;obtain⟨c,hc⟩:∃c,c=(cS (ls.take i)).length:=⟨_,rfl⟩;rw[←hc]at h1 h2
  have hlx:(cS (ls.take (i+1))).length=c+ls[i].xs.length:=by rw[hsu,oT,hc]
  obtain⟨x,hx⟩:∃x,x=ls[i]:=⟨_,rfl⟩;rw[←hx]at h2 hlx;have hx':=hx.symm;obtain⟨d,hd⟩:∃d,d=c+x.xs.length:=⟨_,rfl⟩
  have hw:IntKind.i64.wrap ((c:Int)+(x.xs.length:Int))=(d:Int):=by rw[wrap64 (by omega) (by omega),hd];push_cast;rfl
  refine wx ?_;simp -dsimp[hb,hx',hw,show ¬(d:Int)<0 by omega,aP i (by omega),←hc,eB];refine hN (i+1) _ _ (by omega) (by omega) (by simp[hlx,hd]) ⟨[],rfl⟩ (by simp;exact hpF) (by simp)
 ·obtain rfl:i=ls.length:=by omega
  rw[oY];have hg:=fb (H:=[]) (nC (cS ls).length hs) (by simp);refine wx ?_;simp -dsimp[hb,eB];refine hQ _ _ _ ?_;simp -dsimp[eB];refine hg.mono ?_;rintro r H' ⟨e,z,xs,rfl,rfl,_,rfl,rfl,rfl⟩;simp -dsimp[eB];refine aI (W_loopM 35 0x7f8000140 (by simp[mB]<;>rfl) (σ:=Nat) (fun i=>i≤ls.length) (fun i=>ls.length-i) (fun i=>[(27,.int .i64 i),(6,.buf 0 0 (cS (ls.take i)).length (cS (ls.take i)).length)]) (fun i=>[B.buf 81 11 (cS (ls.take i)) false]) 0 (by omega) (by simp[cS]) (by simp[cS]) (by simp) ?_);intro i hi N2 Q2 hN2 hQ2;by_cases hb:i<ls.length
  ·have hsu:=nq ls i hb;have h2:=htl (i+1);have hpi:=hp ls[i] (oI hb);have hpc:=jE (ls:=ls.take (i+1)) (fun l hl=>hp l (pQ hl));obtain⟨x,hx⟩:∃x,x=ls[i]:=⟨_,rfl⟩;rw[←hx]at hsu hpi;have hx':=hx.symm;rw[hsu]at h2 hpc;obtain⟨xs,hxs⟩:∃xs,xs=x.xs:=⟨_,rfl⟩;have hxs':=hxs.symm;rw[←hxs]at hsu h2 hpc hpi;by_cases h0:xs=[]
   ·rw[h0,oU]at hsu;refine wx ?_;simp -dsimp[hb,hx',hxs',h0,aP i (by omega),eB];refine hN2 (i+1) _ _ (by omega) (by omega) (by simp[hsu]) ⟨[],by simp[hsu]⟩ (by simp;exact hpF) (by rw[h0,oU]at hpc;intro bl hbl;rcases List.mem_cons.1 hbl with rfl | hbl;exact(rbB_buf1 (by rw[hsu];exact hpc)).2 trivial;cases hbl)
   ·obtain⟨c,hc⟩:∃c,c=cS (ls.take i):=⟨_,rfl⟩;rw[←hc]at hsu h2 hpc;rw[oT]at h2;refine wx ?_;simp -dsimp[hb,hx',hxs',h0,aP i (by omega),←hc,catW_G (c.length+xs.length) (by omega),eB];refine hN2 (i+1) _ _ (by omega) (by omega) (by simp[hsu]) ⟨[],by simp[hsu]⟩ (by simp;exact hpF) (by intro bl hbl;rcases List.mem_cons.1 hbl with rfl | hbl;exact(rbB_buf1 (by rw[hsu];exact hpc)).2 trivial;cases hbl)
  ·obtain rfl:i=ls.length:=by omega
   rw[oY];refine wx ?_;simp -dsimp[hb,eB];refine hQ2 _ _ _ ?_;simp -dsimp[eB];exact⟨gD rfl rfl (fun x hx=>(jE hp x hx).1),fun x hx=>(jE hp x hx).1⟩
end
end Go.Proofs.YtdnhplencamncaaGreatDoor
namespace Go.Proofs.YtdnhplencamncaaGreatDoor
section
open Go Go.AM
def LTb(g:Bool)(ts:List Tb):V:=.lst 3 g (ts.map (aD false false))
@[simp] theorem LTb_pure (g:Bool) (ts:List Tb):AM.Pure (LTb g ts):=by simp[LTb]
def ixT(p:Tb→Bool)(rs:List Tb)(i:Nat):Int:=if h:i<rs.length then(if p rs[i] then(i:Int) else ixT p rs (i+1)) else -1
termination_by rs.length-i
theorem idxFuncT(H:List B)(fv:V)(p:Tb→Bool)(rs:List Tb)(g:Bool)(hes:rs.length≤1000000)(hH:∀bl∈H,rbB H.length bl)(hfv:rb H.length fv)
  (hp:∀m∈rs,aL Tryz.prog fv [aD false false m] H fun r H'=>r = .bool (p m)∧∃G,H'=H++G):aU Tryz.prog 198 [LTb g rs,fv] H fun r H'=>r = .int .i64 (ixT p rs 0)∧∃G,H'=H++G:=by
 refine aE tok Tryz.func198 rfl rfl ?_;refine wx ?_;simp -dsimp[Tryz.f198,oE,LTb];refine aI (W_loopM 19 0x7ff30 (by simp[mB]<;>rfl) (σ:=Nat) (fun i=>ixT p rs i=ixT p rs 0) (fun i=>rs.length-i) (fun i=>[(8,.int .i64 i)]) (fun _=>H) 0 rfl (by simp) rfl (by simp) ?_);intro i hx N Q hN hQ;by_cases hb:i<rs.length
 ·rw[ixT,dif_pos hb]at hx;have hc:=hp rs[i] (oI hb);cases hq:p rs[i]
  ·rw[hq]at hc hx;simp only[aD,LS,LR]at hc;refine wx ?_;simp -dsimp[hb,aD,LS,LTb];refine hc.mono ?_;rintro r H' ⟨rfl,G,rfl⟩;simp -dsimp[aP i (by omega)];refine hN (i+1) _ _ (by simpa using hx) (by omega) (by simp) ⟨G,rfl⟩ (by simp;exact hfv) hH
  ·rw[hq]at hc hx;simp only[aD,LS,LR]at hc;refine wx ?_;simp -dsimp[hb,aD,LS,LTb];refine hc.mono ?_;rintro r H' ⟨rfl,G,rfl⟩;simp -dsimp[];refine hQ _ _ _ ?_;simp -dsimp[];simpa using hx
 ·rw[ixT,dif_neg hb]at hx;refine wx ?_;simp -dsimp[hb];refine hQ _ _ _ ?_;simp -dsimp[];simpa using hx
theorem nM(ts:List Tb)(g:Bool)(nm:ByteArray)(hr:ts.length≤1000000):aJ Tryz.prog 128 [.agg [LTb g ts],.str nm] fun r=>r = .int .i64 (ixT (fun t=>t.name.toList == nm.toList) ts 0):=by
 have hclo:∀m∈ts,aL Tryz.prog (.fn 199 [.ptr 1 0]) [aD false false m] [B.cells [LTb g ts],B.cells [.str nm]] fun r H'=>r = .bool (m.name.toList == nm.toList)∧∃G,H'=[B.cells [LTb g ts],B.cells [.str nm]]++G:=fun m hm=>by
  simp only[aL,pg,pH];refine aE tok Tryz.func199 rfl rfl ?_;refine wx ?_;simp -dsimp[Tryz.f199,oE,aD,LS,LR,LTb]
 have hcf:=idxFuncT [B.cells [LTb g ts],B.cells [.str nm]] (.fn 199 [.ptr 1 0]) (fun m=>m.name.toList == nm.toList) ts g hr (by simp[LTb]) (by simp) hclo;obtain⟨n,hn⟩:∃n,n=ixT (fun t:Tb=>t.name.toList == nm.toList) ts 0:=⟨_,rfl⟩;rw[←hn]at hcf ⊢;simp only[LTb]at hcf;refine sPx Tryz.func128 rfl rfl ?_;simp -dsimp[Tryz.f128,oE,LTb];refine aL.mono (K:=fun r H'=>r = .int .i64 n∧∃G,H'=[B.cells [.lst 3 g (ts.map (aD false false))],B.cells [.str nm]]++G) hcf ?_;rintro r H' ⟨rfl,G,rfl⟩;simp -dsimp[]
def nZ(ts:List Tb)(t:Tb):Int:=if aG t=0 then(if 0≤ixT (fun u=>u.name.toList == t.name.toList) ts 0 then 5 else if 50≤ts.length then 3 else 0) else aG t
theorem creates_s(ts:List Tb)(g:Bool)(t:Tb)(f f2:Bool)(hr:ts.length≤1000000)(hk:TbOk t):aJ Tryz.prog 127 [.agg [LTb g ts],aD f f2 t] fun r=>r = .int .i64 (nZ ts t):=by
 have c1:=cI t f f2 hk;have c2:=nM ts g t.name hr;simp only[aD,LS,LR]at c1;simp only[LTb]at c2;by_cases h1:aG t=0
 case neg =>
  rw[show nZ ts t=aG t by unfold nZ;rw[if_neg h1]];refine sPx Tryz.func127 rfl rfl ?_;simp -dsimp[Tryz.f127,oE,aD,LS,LR,LTb];refine cPx (c1) (by simp) ?_;simp -dsimp[h1]
 rw[h1]at c1;obtain⟨n,hn⟩:∃n,n=ixT (fun u:Tb=>u.name.toList == t.name.toList) ts 0:=⟨_,rfl⟩;rw[←hn]at c2;by_cases h2:0≤n
 ·rw[show nZ ts t=5 by unfold nZ;rw[if_pos h1,←hn,if_pos h2]];refine sPx Tryz.func127 rfl rfl ?_;simp -dsimp[Tryz.f127,oE,aD,LS,LR,LTb];refine cPx (c1) (by simp) ?_;simp -dsimp[];refine cPx (c2) (by simp) ?_;simp -dsimp[h2]
 ·by_cases h3:50≤ts.length
  ·rw[show nZ ts t=3 by unfold nZ;rw[if_pos h1,←hn,if_neg h2,if_pos h3]];refine sPx Tryz.func127 rfl rfl ?_;simp -dsimp[Tryz.f127,oE,aD,LS,LR,LTb];refine cPx (c1) (by simp) ?_;simp -dsimp[];refine cPx (c2) (by simp) ?_;simp -dsimp[h2,show(50:Int)≤ts.length by omega]
  ·rw[show nZ ts t=0 by unfold nZ;rw[if_pos h1,←hn,if_neg h2,if_neg h3]];refine sPx Tryz.func127 rfl rfl ?_;simp -dsimp[Tryz.f127,oE,aD,LS,LR,LTb];refine cPx (c1) (by simp) ?_;simp -dsimp[];refine cPx (c2) (by simp) ?_;simp -dsimp[h2,show ¬(50:Int)≤ts.length by omega]
end
end Go.Proofs.YtdnhplencamncaaGreatDoor
namespace Go.Proofs.YtdnhplencamncaaGreatDoor
section
open Go Go.AM Go.RowKit
theorem cap64c(n:Nat)(h:n≤1000000):n≤9223372036854775806∧(n+1)*64≤140737488355328:=by omega
theorem infoD_B:(Tryz.prog.info? 32).map (fun i=>(i.zero,i.size,i.bytes))=some (some (.agg #[.string ⟨#[]⟩,.slice none 0 0,.slice none 0 0]),3,64):=by kernel_rfl
theorem cloneE_B(A:Option Addr)(cap:Nat)(w:World):
  Calls Tryz.prog 125 #[.slice A 0 cap] w fun e w'=>∃v,e = .returned v∧w'.ownsRow w.heap.size 32 3 v 0 []∧Below w.heap.size w w':=by
 have hnil:=fun W A n c=>Lib.run_eql_slice_nil (P:=Tryz.prog) W 92 32 A n c 0 0 Tryz.underlying92
 cases A with
 | none =>
  go_enter Tryz.func125,Tryz.ntmps125
  go_wp2
  go_ret
  exact⟨_,rfl,World.ownsRow_nil _ _ _ _,Below.refl _ _⟩
 | some ad =>
  obtain⟨i0,hi,hz0,hz1,hz2⟩:=info_parts infoD_B;have hown:(w.alloc (.cells #[] 32)).ownsRow w.heap.size 32 3 (.slice (some ⟨w.heap.size,0,none⟩) 0 0) 0 []:=World.ownsRow_lit w #[] 0 (oJ _) (by simp[maxLen]) (by simp)
  have hnews:∀j u,([]:List Value)[j]?=some u→(w.alloc (.cells #[] 32)).cell? (ad.add j)=some u:=by
   intro j u hu;simp at hu
  have hone:∀u∈([]:List Value),u.oneCell'=true:=by intro u hu;cases hu
  have h63:0+0≤maxLen:=by simp[maxLen]
  have hby:(0+0)*64≤140737488355328:=by omega
  have hlen:([]:List Value).length=0*3:=by simp
  have Hi:=Lib.hid (show Tryz.prog.info? 32=some i0∧i0.zero=some _∧i0.size=3∧i0.bytes=64 from⟨hi,hz0,hz1,hz2⟩);have Hw:=Lib.hid (And.intro hown (And.intro hnews (And.intro hone (And.intro h63 (And.intro hby hlen)))));clear hnews hone hown hi hz0 hz1 hz2 h63 hby hlen
  go_enter Tryz.func125,Tryz.ntmps125
  go_wp2_with (at_builtin;refine wpList_append_own _ rfl _ _ 92 rfl w.heap.size 32 i0 _ 3 64 Tryz.underlying92 Hi.out.1 Hi.out.2.1 Hi.out.2.2.1 Hi.out.2.2.2 rfl (by omega) (.slice (some ⟨w.heap.size,0,none⟩) 0 0) 0 [] rfl Hw.out.1 ad 0 cap [] rfl Hw.out.2.2.2.2.2 Hw.out.2.1 Hw.out.2.2.1 Hw.out.2.2.2.1 Hw.out.2.2.2.2.1 (by simp) ?_;intro v1 w1 ho hg hn;have Ho:=Lib.hid ho;have Hg:=Lib.hid hg;have Hn:=Lib.hid hn;clear ho hg hn)
  go_ret
  exact⟨v1,rfl,by have:=Ho.out;simpa using this,((Below.refl _ _).alloc (oJ _) _).grown Hg.out (by simp) (by simp[Value.ownBlock])⟩
theorem cloneN_B:∀(f:Bool),aJ Tryz.prog 125 [.lst 3 f []] fun r=>r = .lst 3 false []:=fun f=>by
 have hO:dr Tryz.prog 125 [.lst 3 f []] fun e z ys=>e=32∧z=3∧ys=[]:=fX ⟨Tryz.f125,Tryz.func125,rfl,rfl⟩ (fun F w vals hsz hrel=>by
  obtain⟨u0,rfl⟩:∃u0,vals = #[u0]:=by
   obtain⟨l⟩:=vals
   match l,hsz with
   | [a],_=>exact⟨a,rfl⟩
  have r0:=hrel 0 _ u0 rfl rfl;cases r0
  refine(cloneE_B _ _ _).mono fun e' w' ⟨v,he,hown,hb⟩=>⟨v,he,hb,?_⟩
  obtain⟨_,⟨hv,_⟩ | ⟨g,c,cur,hv,hg,hc,hn,hm,hs,_⟩⟩:=hown
  ·exact .inl hv
  ·exact .inr ⟨g,c,cur,hv,hg,hc,hm,hs⟩)
 refine⟨hO.1,fun F w vals hZ hF hsz hrel=>((eM hO).2 F w vals hZ hF hsz hrel).mono fun e w' ⟨u,r,h1,h2,h3,h4,e',z,ys,h5,h6,h7,h8⟩=>?_⟩;subst h6;subst h7;subst h8;exact⟨u,r,h1,h2,h3,h4,h5⟩
theorem cloneO0_B(f:Bool):dr Tryz.prog 125 [.lst 3 f []] fun e z ys=>e=32∧z=3∧ys=[]:=fX ⟨Tryz.f125,Tryz.func125,rfl,rfl⟩ (fun F w vals hsz hrel=>by
  obtain⟨u0,rfl⟩:∃u0,vals = #[u0]:=by
   obtain⟨l⟩:=vals
   match l,hsz with
   | [a],_=>exact⟨a,rfl⟩
  have r0:=hrel 0 _ u0 rfl rfl;cases r0
  refine(cloneE_B _ _ _).mono fun e' w' ⟨v,he,hown,hb⟩=>⟨v,he,hb,?_⟩
  obtain⟨_,⟨hv,_⟩ | ⟨g,c,cur,hv,hg,hc,hn,hm,hs,_⟩⟩:=hown
  ·exact .inl hv
  ·exact .inr ⟨g,c,cur,hv,hg,hc,hm,hs⟩)
theorem nk(l:List Tb)(f:Bool)(hl:l.length≤1000000):dr Tryz.prog 125 [.lst 3 f (l.map (aD false false))] fun e z ys=>e=32∧z=3∧ys=l.map (aD false false):=by
 cases l with
 | nil=>exact cloneO0_B f
 | cons x xs =>
  have hl':xs.length≤1000000:=by simp only[og]at hl;omega
  refine sOx Tryz.func125 rfl rfl ?_;simp -dsimp[Tryz.f125,oE,eK,cap64c xs.length (by omega),aD];exact⟨0,32,3,(aD false false) x::xs.map (aD false false),by simp,rfl,by simp,rfl,rfl,rfl⟩
end
end Go.Proofs.YtdnhplencamncaaGreatDoor
namespace Go.Proofs.YtdnhplencamncaaGreatDoor
section
open Go Go.AM
theorem rb1_mono{n m:Nat}(h:n≤m){v:V}(hv:rb1 n v):rb1 m v:=by
 cases v<;>simp only[rb1]at hv ⊢<;>first | exact hv | omega | trivial
theorem lf{n m:Nat}(h:n≤m){v:V}(hv:rb n v):rb m v:=by
 cases v<;>simp only[rb]at hv ⊢<;>first | exact rb1_mono h hv | exact fun c hc=>rb1_mono h (hv c hc) | trivial
theorem jZ{n m:Nat}(h:n≤m){bl:B}(hb:rbB n bl):rbB m bl:=by
 cases bl with
 | cells cs=>exact fun c hc=>lf h (hb c hc)
 | map kk es=>exact fun p hp=>⟨lf h (hb p hp).1,lf h (hb p hp).2⟩
 | buf e z xs fz=>exact fun x hx c hc=>lf h (hb x hx c hc)
def chC(f g:Bool)(c:Ch):List V:=[.int .i64 c.k,.str c.nm,.str c.tb.name,.lst 1 f (c.tb.attrs.map V.str),.lst 2 g (c.tb.rows.map aC),.int .i64 c.row.id,.lst 3 false (c.row.vals.map aF),.int .i64 c.a,.int .i64 c.v.k,.int .i64 c.v.n,.str c.v.s]
def aK(f g:Bool)(c:Ch):V:=.agg (chC f g c)
@[simp] theorem encCh_pure (f g:Bool) (c:Ch):AM.Pure (aK f g c):=by simp[aK,chC]
@[simp] theorem encCh_oneV (f g:Bool) (c:Ch):cT (aK f g c)=true:=by simp[aK,chC,cT,V.one]
def nW(a b:Ch):Bool:=decide (a.k=b.k)&&((a.nm.toList == b.nm.toList)&&(eqTb a.tb b.tb&&(lT a.row b.row&&(decide (a.a=b.a)&&decide (a.v=b.v)))))
theorem eqCh_self(a:Ch):nW a a=true:=by simp[nW,fR,lT,jB]
structure ChOk (c:Ch):Prop where
 attrs:c.tb.attrs.length≤1000000
 rows:c.tb.rows.length≤1000000
 row:∀r∈c.tb.rows,r.vals.length≤1000000∧∀v∈r.vals,v.s.size≤maxLen
 vals:c.row.vals.length≤1000000∧∀v∈c.row.vals,v.s.size≤maxLen
theorem equal59(a b:Ch)(f g f2 g2:Bool)(h:ChOk a):aJ Tryz.prog 64 [aK f g a,aK f2 g2 b] fun r=>r = .bool (nW a b):=by
 have c1:=iO a.tb b.tb f g f2 g2 h.attrs h.rows h.row;have c2:=lM a.row b.row h.vals.1 h.vals.2
 have e1:=fun H=>eqVl9 H a.v b.v
 simp only[aD,LS,LR,aC,LV]at c1 c2;unfold nW;by_cases h1:a.k=b.k
 case neg =>
  rw[decide_eq_false h1,pF];refine sPx Tryz.func64 rfl rfl ?_;simp -dsimp[Tryz.f64,oE,aK,chC,h1]
 rw[decide_eq_true h1,pE]
 cases h2:(a.nm.toList == b.nm.toList) with
 | false =>
  rw[pF];refine sPx Tryz.func64 rfl rfl ?_;simp -dsimp[Tryz.f64,oE,aK,chC,h1,h2]
 | true =>
 rw[pE]
 cases h3:eqTb a.tb b.tb with
 | false =>
  rw[h3]at c1;rw[pF];refine sPx Tryz.func64 rfl rfl ?_;simp -dsimp[Tryz.f64,oE,aK,chC,h1,h2];refine cPx (c1) (by simp) ?_;simp -dsimp[]
 | true =>
 rw[h3]at c1;rw[pE]
 cases h4:lT a.row b.row with
 | false =>
  rw[h4]at c2;rw[pF];refine sPx Tryz.func64 rfl rfl ?_;simp -dsimp[Tryz.f64,oE,aK,chC,h1,h2];refine cPx (c1) (by simp) ?_;simp -dsimp[];refine cPx (c2) (by simp) ?_;simp -dsimp[]
 | true =>
 rw[h4]at c2;rw[pE];by_cases h5:a.a=b.a
 case neg =>
  rw[decide_eq_false h5,pF];refine sPx Tryz.func64 rfl rfl ?_;simp -dsimp[Tryz.f64,oE,aK,chC,h1,h2];refine cPx (c1) (by simp) ?_;simp -dsimp[];refine cPx (c2) (by simp) ?_;simp -dsimp[h5]
 rw[decide_eq_true h5,pE];refine sPx Tryz.func64 rfl rfl ?_;simp -dsimp[Tryz.f64,oE,aK,chC,h1,h2];refine cPx (c1) (by simp) ?_;simp -dsimp[];refine cPx (c2) (by simp) ?_;simp -dsimp[h5,e1]
def eqCs(a b:List Ch):Bool:=decide (a.length=b.length)&&(oM a.length).all fun i=>nW (a.getD i ⟨0,oF,⟨oF,[],[]⟩,⟨0,[]⟩,0,vl0⟩) (b.getD i ⟨0,oF,⟨oF,[],[]⟩,⟨0,[]⟩,0,vl0⟩)
theorem eqCs_self(a:List Ch):eqCs a a=true:=by simp[eqCs,eqCh_self]
theorem same59(A B:List V)(l m:List Ch)(f g:Bool)(ha:A.length=l.length)(hb:B.length=m.length)(hl:l.length≤1000000)(pa:∀x∈A,AM.Pure x)(pb:∀x∈B,AM.Pure x)
  (hc:∀i (h1:i<A.length) (h2:i<B.length) (h3:i<l.length) (h4:i<m.length),(∃xs ys,A[i] = .agg xs∧B[i] = .agg ys∧xs.length=11∧ys.length=11)∧aJ Tryz.prog 64 [A[i],B[i]] fun r=>r = .bool (nW l[i] m[i])):
  aJ Tryz.prog 26 [.lst 11 f A,.lst 11 g B] fun r=>r = .bool (eqCs l m):=by
 unfold eqCs;obtain⟨z,hz⟩:∃z:Ch,z=⟨0,oF,⟨oF,[],[]⟩,⟨0,[]⟩,0,vl0⟩:=⟨_,rfl⟩;rw[←hz];by_cases h0:l.length=m.length
 ·rw[decide_eq_true h0,pE]
  obtain⟨E,hE⟩:∃E,E=(oM l.length).all fun i=>nW (l.getD i z) (m.getD i z):=⟨_,rfl⟩
  rw[←hE]
  have hAB:A.length=B.length:=by omega
  refine sPx Tryz.func26 rfl rfl ?_;simp -dsimp[Tryz.f26,oE,hAB];refine aI (W_loopM 27 0x7fff830 (by simp[mB]<;>rfl) (σ:=Nat) (fun i=>i≤l.length∧(oM i).all (fun i=>nW (l.getD i z) (m.getD i z))=true) (fun i=>l.length-i) (fun i=>[(5,.int .i64 i)]) (fun _=>[]) 0 ⟨by omega,rfl⟩ (by simp) rfl (by simp) ?_);rintro i ⟨hi,hall⟩ N Q hN hQ;by_cases hb1:i<l.length
  ·have q1:i<A.length:=by omega
   have q2:i<B.length:=by omega
   have q3:i<m.length:=by omega
   obtain⟨⟨xs,ys,w1,w2,w3,w4⟩,c1⟩:=hc i q1 q2 hb1 q3;rw[w1,w2]at c1
   have ha1:l.getD i z=l[i]:=by simp[hb1]
   have ha2:m.getD i z=m[i]:=by simp[q3]
   have p1:AM.Pure (.agg xs):=by rw[←w1];exact pa _ (oI q1)
   have p2:AM.Pure (.agg ys):=by rw[←w2];exact pb _ (oI q2)
   have t1:xs.take 11=xs:=pA (by omega);have t2:ys.take 11=ys:=pA (by omega)
   cases hq:nW l[i] m[i] with
   | true =>
    rw[hq]at c1;refine wx ?_;simp -dsimp[hAB.symm,q1,w1,w2,w3,w4,t1,t2];refine .inr ⟨aS (by kernel_rfl),?_⟩;refine az _ (aT c1 (by intro a ha;simp only[oR,oO,or_false]at ha;rcases ha with rfl | rfl<;>assumption)) ?_;simp -dsimp[aP i (by omega)];refine hN (i+1) _ _ ⟨by omega,bt hall (by rw[ha1,ha2,hq])⟩ (by omega) (by simp[hAB]) ⟨[],by simp⟩ (by simp;exact⟨pa,pb,pa,pb⟩) (by simp)
   | false =>
    rw[hq]at c1
    have hno:(oM l.length).all (fun i=>nW (l.getD i z) (m.getD i z))=false:=by
     cases hh:(oM l.length).all (fun i=>nW (l.getD i z) (m.getD i z))
     ·rfl
     ·have:=List.all_eq_true.1 hh i (by simpa using hb1);rw[ha1,ha2,hq]at this;cases this
    rw[hno]at hE;refine wx ?_;simp -dsimp[hAB.symm,q1,w1,w2,w3,w4,t1,t2];refine .inr ⟨aS (by kernel_rfl),?_⟩;refine az _ (aT c1 (by intro a ha;simp only[oR,oO,or_false]at ha;rcases ha with rfl | rfl<;>assumption)) ?_;simp -dsimp[];refine hQ _ _ _ ?_;simp -dsimp[];exact hE
  ·obtain rfl:i=l.length:=by omega
   rw[hall]at hE;refine wx ?_;simp -dsimp[show ¬l.length<A.length by omega,show ¬((l.length:Int)<A.length) by omega];refine hQ _ _ _ ?_;simp -dsimp[];exact hE
 ·rw[decide_eq_false h0,pF];refine sPx Tryz.func26 rfl rfl ?_;simp -dsimp[Tryz.f26,oE,show ¬(A.length:Int)=B.length by omega]
theorem take_ext{α:Type}{a b:List α}{i:Nat}(h:a.take i=b.take i)(h1:i<a.length)(h2:i<b.length)(e:a[i]=b[i]):a.take (i+1)=b.take (i+1):=by
 rw[oN h1,oN h2,h,e]
theorem valsEq_u(a b:List Vl)(f g:Bool)(hl:a.length≤1000000):aJ Tryz.prog 129 [LV f a,LV g b] fun r=>r = .bool (decide (a=b)):=by
 by_cases h0:a.length=b.length
 ·obtain⟨E,hE⟩:∃E,E=decide (a=b):=⟨_,rfl⟩;rw[←hE];refine sPx Tryz.func129 rfl rfl ?_;simp -dsimp[Tryz.f129,oE,LV,h0];refine aI (W_loopM 26 0x3ffe030 (by simp[mB]<;>rfl) (σ:=Nat) (fun i=>i≤a.length∧a.take i=b.take i) (fun i=>a.length-i) (fun i=>[(13,.int .i64 i)]) (fun _=>[]) 0 ⟨by omega,rfl⟩ (by simp) rfl (by simp) ?_);rintro i ⟨hi,hall⟩ N Q hN hQ;by_cases hb:i<a.length
  ·have hb2:i<b.length:=by omega
   obtain⟨x,hx⟩:∃x,x=a[i]:=⟨_,rfl⟩;obtain⟨y,hy⟩:∃y,y=b[i]:=⟨_,rfl⟩
   have e1:=fun H=>eqVl9 H x y
   by_cases hq:x=y
   ·refine wx ?_;simp -dsimp[hb,hb2,hx.symm,hy.symm,aF];refine .inr ⟨aS (by kernel_rfl),?_⟩;simp -dsimp[e1,show decide (x=y)=true by simp[hq],aP i (by omega)];refine hN (i+1) _ _ ⟨by omega,take_ext hall hb hb2 (by rw[←hx,←hy,hq])⟩ (by omega) (by simp) ⟨[],rfl⟩ (by simp) (by simp)
   ·have hno:E=false:=by
     rw[hE,decide_eq_false_iff_not];intro e;apply hq;rw[hx,hy];subst e;rfl
    refine wx ?_;simp -dsimp[hb,hb2,hx.symm,hy.symm,aF];refine .inr ⟨aS (by kernel_rfl),?_⟩;simp -dsimp[e1,show decide (x=y)=false by simp[hq]];refine hQ _ _ _ ?_;simp -dsimp[];exact hno
  ·obtain rfl:i=a.length:=by omega
   rw[oY,h0,oY]at hall;rw[decide_eq_true hall]at hE;refine wx ?_;simp -dsimp[hb,h0];refine hQ _ _ _ ?_;simp -dsimp[];exact hE
 ·rw[decide_eq_false (fun e=>h0 (by rw[e]))];refine sPx Tryz.func129 rfl rfl ?_;simp -dsimp[Tryz.f129,oE,LV,show ¬((a.length:Int)=b.length) by omega]
def tb0:Tb:=⟨oF,[],[]⟩
def cO(nm:ByteArray)(c:Chg):Ch:=⟨c.k,nm,tb0,c.row,c.a,c.v⟩
theorem run_del{t:Tb}(ds:List Rw)(h:aG t=0)(hd:∀d∈ds,d∈t.rows)(hs:Srt ds):runT t ((ds.map fun r=>(⟨3,r,0,vl0⟩:Chg)).map (cO t.name))=some (wrT t (t.rows.filter fun r=>ds.all fun d=>!decide (r.id=d.id))):=by
 induction ds generalizing t with
 | nil =>
  have e:(t.rows.filter fun r=>[].all fun d:Rw=>!decide (r.id=d.id))=t.rows:=List.filter_eq_self.2 (by simp);rw[e];rfl
 | cons d ds ih =>
  obtain⟨h1,h2⟩:=List.pairwise_cons.1 hs
  have hst:av t (cO t.name ⟨3,d,0,vl0⟩)=some (wrT t (eE t.rows d.id)):=by
   unfold av cO;simp only[if_true];rw[if_neg (by decide),if_pos (jW h (hd d ou))]
  have h3:=et h hst;have h4:=ih (t:=wrT t (eE t.rows d.id)) h3.1 (fun e he=>fq.2 ⟨hd e (ow _ he),by have:=h1 e he;omega⟩) h2;rw[oq,oq,runT,hst];simp only;have h5:(wrT t (eE t.rows d.id)).name=t.name:=rfl;rw[h5]at h4;rw[h4];simp only[wrT,eE,List.filter_filter,Option.some.injEq,Tb.mk.injEq,true_and]
  refine List.filter_congr fun r _=>?_
  rw[rh,Bool.and_comm]
def mT(rs:List Rw)(id:Int)(vs:List Vl):List Rw:=rs.map fun r=>if r.id=id then⟨r.id,vs⟩ else r
theorem set_chg{rs:List Rw}(hs:Srt rs){id:Int}{vs:List Vl}(hm:(⟨id,vs⟩:Rw)∈rs)(a:Nat)(v:Vl):gX rs id a v=mT rs id (vs.set a v):=by
 refine oo fun r hr=>?_
 by_cases e:r.id=id
 ·have:=ii hs hr hm e;rw[if_pos e,if_pos e,this]
 ·rw[if_neg e,if_neg e]
theorem set_set(rs:List Rw)(id:Int)(vs ws:List Vl):mT (mT rs id vs) id ws=mT rs id ws:=by
 unfold mT;rw[qu]
 refine oo fun r _=>?_
 simp only[Function.comp];by_cases e:r.id=id
 ·rw[if_pos e,if_pos e,if_pos e]
 ·rw[if_neg e,if_neg e]
theorem set_self{rs:List Rw}(hs:Srt rs){id:Int}{vs:List Vl}(hm:(⟨id,vs⟩:Rw)∈rs):mT rs id vs=rs:=by
 unfold mT
 conv=>rhs;rw[←rt rs]
 refine oo fun r hr=>?_
 by_cases e:r.id=id
 ·have:=ii hs hr hm e;rw[if_pos e,this];rfl
 ·rw[if_neg e];rfl
theorem set_mem{rs:List Rw}{id:Int}{vs ws:List Vl}(hm:(⟨id,vs⟩:Rw)∈rs):(⟨id,ws⟩:Rw)∈mT rs id ws:=List.mem_map.2 ⟨⟨id,vs⟩,hm,by simp⟩
theorem run_chP{t:Tb}{id:Int}{now tv:List Vl}(h:aG t=0)(hm:(⟨id,now⟩:Rw)∈t.rows)(hv:∀i,i<tv.length→aW (atV tv i)=true)(hl:tv.length=t.attrs.length)(a:Nat)(ha:a≤tv.length):
  runT t ((chP id tv a now).map (cO t.name))=some (wrT t (mT t.rows id (ah tv a now))):=by
 induction a with
 | zero=>simp only[chP,pJ,runT,ah];rw[set_self (bV h) hm];rfl
 | succ a ih =>
  have h1:=ih (by omega);rw[chP,oe,cj,h1,qe]
  have hnl:(ah tv a now).length=t.attrs.length:=by rw[eZ];exact(ay h _ hm).2.1
  obtain⟨T,hT⟩:∃T,T=wrT t (mT t.rows id (ah tv a now)):=⟨_,rfl⟩
  have hTn:T.name=t.name:=by rw[hT];rfl
  have hTa:T.attrs=t.attrs:=by rw[hT];rfl
  have hTr:T.rows=mT t.rows id (ah tv a now):=by rw[hT];rfl
  have hTm:(⟨id,ah tv a now⟩:Rw)∈T.rows:=by rw[hTr];exact set_mem hm
  have hTv:aG T=0:=by
   clear ih
   have:∀(l:List Ch) (u w:Tb),aG u=0→runT u l=some w→aG w=0:=by
    intro l
    induction l with
    | nil=>intro u w h1 h2;cases h2;exact h1
    | cons c l ih =>
     intro u w h1 h2;rw[runT]at h2
     cases hq:av u c with
     | none=>rw[hq]at h2;cases h2
     | some x=>rw[hq]at h2;exact ih x w (et h1 hq).1 h2
   exact this _ _ _ h (by rw[h1,hT])
  rw[←hT];split
  ·rename_i e
   have:ah tv (a+1) now=ah tv a now:=by rw[ah];exact set_same (by omega) e
   rw[this,pJ,runT,hT]
  ·have hst:av T (cO t.name ⟨4,⟨id,ah tv a now⟩,a,atV tv a⟩)=some (wrT T (gX T.rows id a (atV tv a))):=by
    unfold av cO;simp only;rw[if_pos hTn.symm,if_neg (by decide),if_pos (jW hTv hTm),if_neg (by decide),if_pos (by decide),if_pos ⟨by omega,by rw[hTa];omega,hv a (by omega)⟩];rfl
   rw[oq,pJ,runT,hst];simp only[runT];rw[set_chg (bV hTv) hTm,hTr,set_set,ah,hT];rfl
theorem nowF_all{tv now:List Vl}(h:now.length=tv.length):ah tv tv.length now=tv:=by
 have key:∀a,a≤tv.length→∀i,i<tv.length→(ah tv a now)[i]?=if i<a then tv[i]? else now[i]?:=by
  intro a
  induction a with
  | zero=>intro _ i _;simp[ah]
  | succ a ih =>
   intro ha i hi;rw[ah,qY];by_cases e:a=i
   ·subst e;rw[if_pos rfl,if_pos (by rw[eZ];omega),if_pos (by omega)];simp[atV,hi]
   ·rw[if_neg e,ih (by omega) i hi];by_cases h2:i<a
    ·rw[if_pos h2,if_pos (by omega)]
    ·rw[if_neg h2,if_neg (by omega)]
 refine pT fun i=>?_
 by_cases hi:i<tv.length
 ·rw[key _ (oJ _) i hi,if_pos hi]
 ·rw[pK (by rw[eZ];omega),pK (by omega)]
theorem run_chL{t u:Tb}(hu:aG u=0)(hat:t.attrs.length=u.attrs.length)(rs:List Rw)(h:aG t=0)(hd:∀d∈rs,d∈t.rows)(hs:Srt rs):
  runT t ((chL u t.attrs.length rs).map (cO t.name))=some (wrT t (t.rows.map fun r=>if(rs.any fun d=>decide (d.id=r.id))=true∧inT u r.id=true then⟨r.id,(atT u r.id).vals⟩ else r)):=by
 induction rs generalizing t with
 | nil=>simp[chL,runT,wrT]
 | cons d rs ih =>
  obtain⟨h1,h2⟩:=List.pairwise_cons.1 hs;have hdm:=hd d ou;have hsrt:=bV h
  obtain⟨T,hT,hTr⟩:∃T,runT t ((chR u t.attrs.length d).map (cO t.name))=some (wrT t T)∧T=t.rows.map (fun r=>if r.id=d.id∧inT u r.id=true then⟨r.id,(atT u r.id).vals⟩ else r):=by
   refine⟨_,?_,rfl⟩;unfold chR;by_cases hi:inT u d.id=true
   ·rw[if_pos hi];have hx:=gK hi;have hy:=ay hu _ hx.2
    have hl:(atT u d.id).vals.length=t.attrs.length:=by rw[hy.2.1,hat]
    have hdl:=(ay h _ hdm).2.1
    have:=run_chP (now:=d.vals) (tv:=(atT u d.id).vals) h (id:=d.id) hdm (fun i hi2=>by
     have e:atV (atT u d.id).vals i=(atT u d.id).vals[i]:=by simp[atV,hi2]
     rw[e];exact List.all_eq_true.1 hy.2.2 _ (oI hi2)) hl t.attrs.length (by omega)
    rw[this];congr 2
    refine oo fun r hr=>?_
    by_cases e:r.id=d.id
    ·rw[if_pos e,if_pos ⟨e,by rw[e];exact hi⟩,←hl,nowF_all (by omega),e]
    ·rw[if_neg e,if_neg fun h=>e h.1]
   ·rw[if_neg hi,pJ,runT]
    have e:(t.rows.map fun r=>if r.id=d.id∧inT u r.id=true then(⟨r.id,(atT u r.id).vals⟩:Rw) else r)=t.rows:=by
     conv=>rhs;rw[←rt t.rows]
     refine oo fun r hr=>?_
     rw[if_neg];rfl;rintro⟨e,h3⟩;exact hi (by rw[←e];exact h3)
    rw[e];rfl
  have hval:aG (wrT t T)=0:=by
   have:∀(l:List Ch) (u w:Tb),aG u=0→runT u l=some w→aG w=0:=by
    intro l
    induction l with
    | nil=>intro u w h1 h2;cases h2;exact h1
    | cons c l ih =>
     intro u w h1 h2;rw[runT]at h2
     cases hq:av u c with
     | none=>rw[hq]at h2;cases h2
     | some x=>rw[hq]at h2;exact ih x w (et h1 hq).1 h2
   exact this _ _ _ h hT
  have h4:=ih (t:=wrT t T) hat hval (fun e he=>by
   have:=hd e (ow _ he);show e∈T;rw[hTr];refine List.mem_map.2 ⟨e,this,?_⟩;rw[if_neg];rintro⟨e2,_⟩;have:=h1 e he
   omega) h2
  have h5:(wrT t T).name=t.name:=rfl;have h6:(wrT t T).attrs=t.attrs:=rfl;rw[h5,h6]at h4
  have h7:chL u t.attrs.length (d::rs)=chR u t.attrs.length d++chL u t.attrs.length rs:=by simp[chL]
  rw[h7,oe,cj,hT,qe,h4];congr 1;unfold wrT;congr 1;show T.map _=_
  have gid:∀r:Rw,(if r.id=d.id∧inT u r.id=true then(⟨r.id,(atT u r.id).vals⟩:Rw) else r).id=r.id:=fun r=>by split<;>rfl
  rw[hTr,qu]
  refine oo fun r hr=>?_
  simp only[Function.comp,gid];by_cases hi:inT u r.id=true
  ·by_cases h8:(rs.any fun d=>decide (d.id=r.id))=true
   ·rw[if_pos ⟨h8,hi⟩,if_pos ⟨by rw[qW,h8,Bool.or_true],hi⟩]
   ·rw[if_neg fun h=>h8 h.1];by_cases e:r.id=d.id
    ·rw[if_pos ⟨e,hi⟩,if_pos ⟨by rw[qW,e];simp,hi⟩]
    ·rw[if_neg fun h=>e h.1,if_neg];rintro⟨h9,_⟩;rw[qW,pW]at h9
     rcases h9 with h9 | h9
     ·exact e (of_decide_eq_true h9).symm
     ·exact h8 h9
  ·rw[if_neg fun h=>hi h.2,if_neg fun h=>hi h.2,if_neg fun h=>hi h.2]
theorem run_ins{t u:Tb}(hu:aG u=0)(hat:t.attrs.length=u.attrs.length)(ns:List Rw)(h:aG t=0)(ht:∀r∈t.rows,r∈u.rows)(hn:∀r∈ns,r∈u.rows)(hd:∀r∈ns,¬inT t r.id=true)(hs:Srt ns):
  ∃M,runT t ((ns.map fun r=>(⟨2,r,0,vl0⟩:Chg)).map (cO t.name))=some (wrT t M)∧Srt M∧∀r,r∈M↔r∈t.rows∨r∈ns:=by
 induction ns generalizing t with
 | nil=>exact⟨t.rows,rfl,bV h,fun r=>by simp⟩
 | cons n ns ih =>
  obtain⟨h1,h2⟩:=List.pairwise_cons.1 hs;have hnm:=hn n ou;have hnt:=hd n ou;have hy:=ay hu _ hnm
  have hlt:t.rows.length<1000:=by
   have he:t.rows=u.rows.filter fun r=>inT t r.id:=jT (bV h) (List.Pairwise.filter _ (bV hu)) fun r=>by
    rw[qF];constructor
    ·intro hr;exact⟨ht r hr,dX.2 ⟨r,hr,rfl⟩⟩
    ·rintro⟨hr,hi⟩;obtain⟨s,hs2,e⟩:=dX.1 hi;rw[←ii (bV hu) (ht s hs2) hr e];exact hs2
   have h5:=cX hu;have h6:(u.rows.filter fun r=>inT t r.id).length<u.rows.length:=List.length_filter_lt_length_iff_exists.2 ⟨n,hnm,by simpa using hnt⟩;have h7:=congrArg List.length he;omega
  have hi:bX t n=0:=by
   unfold bX;rw[if_neg (by rw[hy.2.1,hat];simp),if_neg (by rw[hy.2.2];simp;omega),if_neg hnt,if_neg (by omega)]
  have hst:av t (cO t.name ⟨2,n,0,vl0⟩)=some (wrT t (fw t.rows n)):=by
   unfold av cO;simp only[if_true];rw[if_pos hi]
  have hno:=(dm hi).2.2.2.1
  obtain⟨M,hM1,hM2,hM3⟩:=ih (t:=wrT t (fw t.rows n)) hat (et h hst).1 (fun r hr=>by
   rcases fp.1 hr with rfl | ⟨hr,_⟩
   ·exact hnm
   ·exact ht r hr) (fun r hr=>hn r (ow _ hr)) (fun r hr hin=>by
   obtain⟨s,hs2,e⟩:=dX.1 hin
   rcases fp.1 hs2 with rfl | ⟨hs2,_⟩
   ·have:=h1 r hr;omega
   ·exact hd r (ow _ hr) (dX.2 ⟨s,hs2,e⟩)) h2
  refine⟨M,?_,hM2,fun r=>?_⟩
  ·rw[oq,oq,runT,hst];exact hM1
  ·rw[hM3];show r∈fw t.rows n∨_↔_;rw[fp,oR];constructor
   ·rintro((rfl | ⟨h1,_⟩) | h1)
    ·exact .inr (.inl rfl)
    ·exact .inl h1
    ·exact .inr (.inr h1)
   ·rintro(h1 | rfl | h1)
    ·exact .inl (.inr ⟨h1,hno r h1⟩)
    ·exact .inl (.inl rfl)
    ·exact .inr h1
theorem plan_run{t u:Tb}(h:aG t=0)(hu:aG u=0)(hat:t.attrs.length=u.attrs.length):runT t ((eY t u).map (cO t.name))=some (wrT t u.rows):=by
 have hsrt:=bV h;have hsu:=bV hu
 have vrun:∀(l:List Ch) (u w:Tb),aG u=0→runT u l=some w→aG w=0:=by
  intro l
  induction l with
  | nil=>intro u w h1 h2;cases h2;exact h1
  | cons c l ih =>
   intro u w h1 h2;rw[runT]at h2
   cases hq:av u c with
   | none=>rw[hq]at h2;cases h2
   | some x=>rw[hq]at h2;exact ih x w (et h1 hq).1 h2
 obtain⟨R,hR⟩:∃R,R=t.rows.filter fun r=>inT u r.id:=⟨_,rfl⟩
 have h1:=run_del (t.rows.filter fun r=>!inT u r.id) h (fun d hd=>(List.mem_filter.1 hd).1) (List.Pairwise.filter _ hsrt)
 have hRe:(t.rows.filter fun r=>(t.rows.filter fun r=>!inT u r.id).all fun d=>!decide (r.id=d.id))=R:=by
  rw[hR]
  refine List.filter_congr fun r hr=>?_
  rw[qS,pR];constructor
  ·intro h2;cases hq:inT u r.id
   ·have:=h2 r (List.mem_filter.2 ⟨hr,by simp[hq]⟩);simp at this
   ·rfl
  ·intro h2 d hd;obtain⟨h3,h4⟩:=List.mem_filter.1 hd;rw[pZ,decide_eq_false_iff_not];intro e;rw[←e,h2]at h4;cases h4
 rw[hRe]at h1;have hv1:=vrun _ _ _ h h1
 have hRm:∀r,r∈R↔r∈t.rows∧inT u r.id=true:=fun r=>by rw[hR,qF]
 have hRs:Srt R:=by rw[hR];exact List.Pairwise.filter _ hsrt
 have hchl:chL u t.attrs.length t.rows=chL u t.attrs.length R:=by
  rw[hR];unfold chL
  induction t.rows with
  | nil=>rfl
  | cons r rs ih =>
   rw[qh,rE,ih];by_cases hi:inT u r.id=true
   ·rw[if_pos hi,qh]
   ·rw[if_neg hi]
    have:chR u t.attrs.length r=[]:=by unfold chR;rw[if_neg hi]
    rw[this,pH]
 have h2:=run_chL hu (t:=wrT t R) hat R hv1 (fun d hd=>hd) hRs;have e1:(wrT t R).name=t.name:=rfl;have e2:(wrT t R).attrs=t.attrs:=rfl;have e3:(wrT t R).rows=R:=rfl;rw[e1,e2,e3]at h2
 obtain⟨S,hS⟩:∃S,S=R.map fun r=>if(R.any fun d=>decide (d.id=r.id))=true∧inT u r.id=true then(⟨r.id,(atT u r.id).vals⟩:Rw) else r:=⟨_,rfl⟩
 rw[←hS]at h2;have hv2:=vrun _ _ _ hv1 h2
 have hSm:∀s,s∈S↔s∈u.rows∧inT t s.id=true:=fun s=>by
  rw[hS,List.mem_map];constructor
  ·rintro⟨r,hr,e⟩;obtain⟨h3,h4⟩:=(hRm r).1 hr;rw[if_pos ⟨List.any_eq_true.2 ⟨r,hr,by simp⟩,h4⟩]at e;have h5:=gK h4
   have:s=atT u r.id:=by
    cases hq:atT u r.id with
    | mk a b=>rw[hq]at e h5;rw[←e,←h5.1]
   subst this;exact⟨h5.2,by rw[h5.1];exact dX.2 ⟨r,h3,rfl⟩⟩
  ·rintro⟨h3,h4⟩;obtain⟨r,hr,e⟩:=dX.1 h4;have h5:=atT_mem hsu h3;have h6:r∈R:=(hRm r).2 ⟨hr,by rw[e];exact h5.1⟩;refine⟨r,h6,?_⟩;rw[if_pos ⟨List.any_eq_true.2 ⟨r,h6,by simp⟩,by rw[e];exact h5.1⟩,e,h5.2]
 obtain⟨M,hM1,hM2,hM3⟩:=run_ins hu (t:=wrT (wrT t R) S) hat (u.rows.filter fun r=>!inT t r.id) hv2 (fun r hr=>((hSm r).1 hr).1) (fun r hr=>(List.mem_filter.1 hr).1) (fun r hr hin=>by
  obtain⟨s,hs2,e⟩:=dX.1 hin;have h3:=(List.mem_filter.1 hr).2;have h4:=((hSm s).1 hs2).2;rw[e]at h4;rw[h4]at h3
  cases h3) (List.Pairwise.filter _ hsu)
 have hM:M=u.rows:=jT hM2 hsu fun r=>by
  rw[hM3];show r∈S∨_↔_;rw[hSm,qF];constructor
  ·rintro(h3 | h3)<;>exact h3.1
  ·intro h3;cases hq:inT t r.id
   ·exact .inr ⟨h3,rfl⟩
   ·exact .inl ⟨h3,rfl⟩
 subst hM;unfold eY eF dj;rw[oe,oe,cj,h1,qe,cj,hchl,h2,qe];exact hM1
def ko(vs:List Vl)(x:Vl):Nat:=(vs.filter fun v=>dS v x).length
theorem cntV_le(vs:List Vl)(x:Vl):ko vs x≤vs.length:=pf _ _
theorem cntV_succ(vs:List Vl)(x:Vl)(i:Nat)(h:i<vs.length):ko (vs.take (i+1)) x=if dS vs[i] x=true then ko (vs.take i) x+1 else ko (vs.take i) x:=by
 unfold ko;rw[oN h,qC];split
 ·rename_i h2;rw[List.filter_cons_of_pos (p:=fun v=>dS v x) h2];simp
 ·rename_i h2;rw[List.filter_cons_of_neg (p:=fun v=>dS v x) h2];simp
theorem count_u(vs:List Vl)(x:Vl)(f:Bool)(hl:vs.length≤1000000):aJ Tryz.prog 245 [LV f vs,aF x] fun r=>r = .int .i64 (ko vs x:Nat):=by
 refine sPx Tryz.func245 rfl rfl ?_;simp -dsimp[Tryz.f245,oE,LV,aF];refine aI (W_loopM 20 0xffca0 (by simp[mB]<;>rfl) (σ:=Nat) (fun i=>i≤vs.length) (fun i=>vs.length-i) (fun i=>[(10,.int .i64 i),(5,.int .i64 (ko (vs.take i) x:Nat))]) (fun _=>[B.cells [.int .i64 x.k,.int .i64 x.n,.str x.s]]) 0 (by omega) (by simp[ko]) rfl (by simp) ?_);intro i hi N Q hN hQ;have wi:=aP i (by omega);by_cases hb:i<vs.length
 ·have hs:=cntV_succ vs x i hb;have hle:=cntV_le (vs.take i) x;rw[ot,qE (by omega)]at hle;obtain⟨c,hc⟩:∃c,c=ko (vs.take i) x:=⟨_,rfl⟩;rw[←hc]at hs hle ⊢;obtain⟨v,hv⟩:∃v,v=vs[i]:=⟨_,rfl⟩;rw[←hv]at hs;have wc:=aP c (by omega);cases he:dS v x
  ·rw[he,if_neg (by simp)]at hs;have he2:dS ⟨v.k,v.n,v.s⟩ ⟨x.k,x.n,x.s⟩=false:=he;refine wx ?_;simp -dsimp[hb,hv.symm,aF,eqVl,he2,wi];refine hN (i+1) _ _ (by omega) (by omega) (by simp[hs]) ⟨[_],rfl⟩ (by simp) (by simp)
  ·rw[he,if_pos rfl]at hs;have he2:dS ⟨v.k,v.n,v.s⟩ ⟨x.k,x.n,x.s⟩=true:=he;refine wx ?_;simp -dsimp[hb,hv.symm,aF,eqVl,he2,wi,wc];refine hN (i+1) _ _ (by omega) (by omega) (by simp[hs]) ⟨[_],rfl⟩ (by simp) (by simp)
 ·refine wx ?_;simp -dsimp[hb];refine hQ _ _ _ ?_;simp -dsimp[];rw[pA (by omega)]
def betB(vs:List Vl)(v b:Vl)(rule:Int):Bool :=
 if rule=2 then decide (ko vs b<ko vs v)
 else if rule=3 then decide (v.k=2)&&(!decide (b.k=2)||decide (b.s.size<v.s.size))
 else if rule=4 then decide (iY v b<0)
 else if rule=5 then decide (0<iY v b) else false
theorem better_u(vs:List Vl)(v b:Vl)(rule:Int)(f:Bool)(hl:vs.length≤1000000):aJ Tryz.prog 189 [LV f vs,aF v,aF b,.int .i64 rule] fun r=>r = .bool (betB vs v b rule):=by
 unfold betB;by_cases h2:rule=2
 ·rw[if_pos h2];have c1:=count_u vs v f hl;have c2:=count_u vs b f hl;simp only[LV,aF]at c1 c2;obtain⟨n,hn⟩:∃n,n=ko vs v:=⟨_,rfl⟩;obtain⟨m,hm⟩:∃m,m=ko vs b:=⟨_,rfl⟩;rw[←hn]at c1 ⊢;rw[←hm]at c2 ⊢;refine sPx Tryz.func189 rfl rfl ?_;simp -dsimp[Tryz.f189,oE,LV,aF,h2];refine .inr ⟨aS (by kernel_rfl),?_⟩;refine az _ (aT (c1) (by simp)) ?_;simp -dsimp[];refine az _ (aT (c2) (by simp)) ?_;simp -dsimp[]
 rw[if_neg h2];by_cases h3:rule=3
 ·rw[if_pos h3];by_cases hv:v.k=2
  ·by_cases hb:b.k=2
   ·refine sPx Tryz.func189 rfl rfl ?_;simp -dsimp[Tryz.f189,oE,LV,aF,h3,hv,hb]
   ·refine sPx Tryz.func189 rfl rfl ?_;simp -dsimp[Tryz.f189,oE,LV,aF,h3,hv,hb]
  ·refine sPx Tryz.func189 rfl rfl ?_;simp -dsimp[Tryz.f189,oE,LV,aF,h3,hv]
 rw[if_neg h3];have c1:=valueCompare v b;simp only[aF]at c1;obtain⟨n,hn⟩:∃n,n=iY v b:=⟨_,rfl⟩;rw[←hn]at c1 ⊢;by_cases h4:rule=4
 ·rw[if_pos h4];refine sPx Tryz.func189 rfl rfl ?_;simp -dsimp[Tryz.f189,oE,LV,aF,h4];refine cPx (c1) (by simp) ?_;simp -dsimp[]
 rw[if_neg h4];by_cases h5:rule=5
 ·rw[if_pos h5];refine sPx Tryz.func189 rfl rfl ?_;simp -dsimp[Tryz.f189,oE,LV,aF,h5];refine cPx (c1) (by simp) ?_;simp -dsimp[]
 rw[if_neg h5];refine sPx Tryz.func189 rfl rfl ?_;simp -dsimp[Tryz.f189,oE,LV,aF,h2,h3,h4,h5]
theorem checkRows_u(rs:List Rw)(n:Nat)(f:Bool)(h0:0<rs.length)(hl:rs.length≤1000000)(hn:∀r∈rs,r.vals.length=n):aJ Tryz.prog 112 [LR f rs] fun r=>r = .int .i64 0:=by
 have hne:¬rs=[]:=fun h=>by rw[h]at h0;simp at h0
 obtain⟨x,hx⟩:∃x,x=rs[0]:=⟨_,rfl⟩;have hxn:=hn x (by rw[hx];exact oI h0)
 have h00:¬rs.length=0:=by omega
 refine sPx Tryz.func112 rfl rfl ?_;simp -dsimp[Tryz.f112,oE,LR,hne];refine aI (W_loopM 24 0xfffc14 (by simp[mB]<;>rfl) (σ:=Nat) (fun i=>i≤rs.length) (fun i=>rs.length-i) (fun i=>[(10,.int .i64 i)]) (fun _=>[]) 0 (by omega) (by simp) rfl (by simp) ?_);intro i hi N Q hN hQ;have wi:=aP i (by omega);by_cases hb:i<rs.length
 ·obtain⟨y,hy⟩:∃y,y=rs[i]:=⟨_,rfl⟩;have hyn:=hn y (by rw[hy];exact oI hb);refine wx ?_;simp -dsimp[hb,hy.symm,aC,LV,h0,hx.symm,hxn,hyn];refine .inr ⟨aS (by kernel_rfl),?_⟩;simp -dsimp[hb,hy.symm,aC,LV,h0,hx.symm,hxn,hyn,wi];refine hN (i+1) _ _ (by omega) (by omega) (by simp) ⟨[_],rfl⟩ (by simp[aC,LV]) (by simp)
 ·refine wx ?_;simp -dsimp[hb];refine hQ _ _ _ ?_;simp -dsimp[]
theorem badV_u(v:Vl)(H:List B):aL Tryz.prog (.fn 188 []) [aF v] H fun r H'=>r = .bool (!aW v)∧H'=H:=by
 have c1:=cG v;obtain⟨E,hE⟩:∃E,E=aW v:=⟨_,rfl⟩;rw[←hE]at c1 ⊢
 have h:aJ Tryz.prog 188 [aF v] fun r=>r = .bool (!E):=by
  simp only[aF]at c1 ⊢;refine sPx Tryz.func188 rfl rfl ?_;simp -dsimp[Tryz.f188,oE];refine cPx (c1) (by simp) ?_;simp -dsimp[]
 exact aT h (by simp)
def rwA(rs:List Rw)(i:Nat):Int:=if i=0 then 0 else(rs.getD (i-1) ⟨0,[]⟩).id
theorem checkValues_u(rs:List Rw)(f:Bool)(hl:rs.length≤1000000)(hp:∀r∈rs,0<r.id)(ha:(rs.map (·.id)).Pairwise (· < ·))(hv:∀r∈rs,r.vals.length≤1000000∧∀v∈r.vals,aW v=true):aJ Tryz.prog 113 [LR f rs] fun r=>r = .int .i64 0:=by
 refine sPx Tryz.func113 rfl rfl ?_;simp -dsimp[Tryz.f113,oE,LR];refine aI (W_loopM 24 0xffff2c (by simp[mB]<;>rfl) (σ:=Nat) (fun i=>i≤rs.length) (fun i=>rs.length-i) (fun i=>[(8,.int .i64 i),(3,.int .i64 (rwA rs i))]) (fun _=>[]) 0 (by omega) (by simp[rwA]) rfl (by simp) ?_);intro i hi N Q hN hQ;have wi:=aP i (by omega);by_cases hb:i<rs.length
 ·have hm:=oI hb
  have hlt:rwA rs i<rs[i].id:=by
   unfold rwA;split
   ·exact hp _ hm
   ·rename_i h0
    have h2:i-1<rs.length:=by omega
    have:=List.pairwise_iff_getElem.1 ha (i-1) i (by simpa using h2) (by simpa using hb) (by omega);simp only[qM]at this;rw[show rs.getD (i-1) ⟨0,[]⟩=rs[i-1] by simp[h2]];exact this
  have hnx:rwA rs (i+1)=rs[i].id:=by
   unfold rwA;rw[if_neg (by omega)];simp[hb]
  obtain⟨hvl,hvv⟩:=hv _ hm;obtain⟨y,hy⟩:∃y,y=rs[i]:=⟨_,rfl⟩;rw[←hy]at hlt hnx hvl hvv;obtain⟨a,ha2⟩:∃a,a=rwA rs i:=⟨_,rfl⟩;rw[←ha2]at hlt ⊢
  have hany:y.vals.any (fun v=>!aW v)=false:=by
   rw[rX];intro v hvm;simp[hvv v hvm]
  have cc:=kn [B.cells [.int .i64 y.id,.lst 3 false (y.vals.map aF)]] (.fn 188 []) (fun v=>!aW v) y.vals false hvl (by simp) (by simp) (fun v _=>badV_u v _);rw[hany]at cc;simp only[LV]at cc;refine wx ?_;simp -dsimp[hb,hy.symm,aC,LV,show ¬y.id≤a by omega];refine bF cc ?_;rintro r H' ⟨rfl,rfl⟩;simp -dsimp[wi];refine hN (i+1) _ _ (by omega) (by omega) (by simp[hnx]) ⟨[_],rfl⟩ (by simp[aC,LV]) (by simp)
 ·refine wx ?_;simp -dsimp[hb];refine hQ _ _ _ ?_;simp -dsimp[]
theorem ky(r:Int):aJ Tryz.prog 51 [.int .i64 r] fun x=>x = .bool (decide (1≤r)&&decide (r≤5)):=by
 by_cases h:1≤r
 ·refine sPx Tryz.func51 rfl rfl ?_;simp -dsimp[Tryz.f51,oE,h]
 ·refine sPx Tryz.func51 rfl rfl ?_;simp -dsimp[Tryz.f51,oE,h]
def iU(r:Int):Bool:=decide (1≤r)&&decide (r≤5)
theorem badR1(r:Int)(H:List B):aL Tryz.prog (.fn 50 []) [.int .i64 r] H fun x H'=>x = .bool (!iU r)∧H'=H:=by
 have c1:=ky r;rw[show(decide (1≤r)&&decide (r≤5))=iU r from rfl]at c1;obtain⟨E,hE⟩:∃E,E=iU r:=⟨_,rfl⟩;rw[←hE]at c1 ⊢
 have h:aJ Tryz.prog 50 [.int .i64 r] fun x=>x = .bool (!E):=by
  refine sPx Tryz.func50 rfl rfl ?_;simp -dsimp[Tryz.f50,oE];refine cPx (c1) (by simp) ?_;simp -dsimp[]
 exact aT h (by simp)
theorem badR2(r:Int)(H:List B):aL Tryz.prog (.fn 114 []) [.int .i64 r] H fun x H'=>x = .bool (!iU r)∧H'=H:=by
 have c1:=ky r;rw[show(decide (1≤r)&&decide (r≤5))=iU r from rfl]at c1;obtain⟨E,hE⟩:∃E,E=iU r:=⟨_,rfl⟩;rw[←hE]at c1 ⊢
 have h:aJ Tryz.prog 114 [.int .i64 r] fun x=>x = .bool (!E):=by
  refine sPx Tryz.func114 rfl rfl ?_;simp -dsimp[Tryz.f114,oE];refine cPx (c1) (by simp) ?_;simp -dsimp[]
 exact aT h (by simp)
def asvI:List Int→Bool
 | a::b::l=>if b≤a then false else asvI (b::l)
 | _=>true
def asvB(l:List Int):Bool:=asvI l&&decide (0<l.length)
theorem asvI_drop{l:List Int}{i:Nat}(h:i+1<l.length):asvI (l.drop i)=if l[i+1]≤l[i] then false else asvI (l.drop (i+1)):=by
 rw[oK (show i<l.length by omega),oK h,asvI]
theorem asvI_end{l:List Int}{i:Nat}(h:l.length≤i+1):asvI (l.drop i)=true:=by
 have:(l.drop i).length≤1:=by simp;omega
 match hd:l.drop i,this with
 | [],_=>rfl
 | [a],_=>rfl
theorem ascending_u(l:List Int)(f:Bool)(hl:l.length≤1000000):aJ Tryz.prog 187 [L1 f l] fun r=>r = .bool (asvB l):=by
 unfold asvB;obtain⟨A,hA⟩:∃A,A=asvI l:=⟨_,rfl⟩;rw[←hA];refine sPx Tryz.func187 rfl rfl ?_;simp -dsimp[Tryz.f187,oE,L1];refine aI (W_loopM 20 0xffffc (by simp[mB]<;>rfl) (σ:=Nat) (fun i=>asvI (l.drop i)=A∧i≤l.length) (fun i=>l.length-i) (fun i=>[(3,.int .i64 ((i:Int)+1))]) (fun _=>[]) 0 ⟨by rw[pC,hA],by omega⟩ (by simp) rfl (by simp) ?_);rintro i ⟨h1,h2⟩ N Q hN hQ;by_cases hb:i+1<l.length
 ·have hb2:((i:Int)+1)<(l.length:Int):=by omega
  have hb0:i<l.length:=by omega
  rw[asvI_drop hb]at h1;obtain⟨x,hx⟩:∃x,x=l[i]:=⟨_,rfl⟩;obtain⟨y,hy⟩:∃y,y=l[i+1]:=⟨_,rfl⟩;rw[←hx,←hy]at h1;have wm:IntKind.i64.wrap (i:Int)=(i:Int):=wrap64 (by omega) (by omega);have wp:IntKind.i64.wrap (((i:Int)+1)+1)=(i:Int)+1+1:=wrap64 (by omega) (by omega)
  have hyg:(l.map aQ)[i+1]?=some (.int .i64 y):=by rw[hy];simp[hb,aQ]
  have hxg:(l.map aQ)[i]?=some (.int .i64 x):=by rw[hx];simp[hb0,aQ]
  by_cases hc:y≤x
  ·rw[if_pos hc]at h1;refine wx ?_;simp -dsimp[hb2,hb0,hb,hx.symm,hy.symm,wm,hc,aQ,show(0:Int)≤(i:Int)+1 by omega];refine .inr ⟨aS (by kernel_rfl),?_⟩;refine hQ _ _ _ ?_;simp -dsimp[hb2,hb0,hb,hx.symm,hy.symm,wm,hc,aQ];rw[←h1];simp
  ·rw[if_neg hc]at h1;refine wx ?_;simp -dsimp[hb2,hb0,hb,hx.symm,hy.symm,wm,hc,aQ,show(0:Int)≤(i:Int)+1 by omega];refine .inr ⟨aS (by kernel_rfl),?_⟩;simp -dsimp[hb2,hb0,hb,hx.symm,hy.symm,wm,hc,aQ,wp];refine hN (i+1) _ _ ⟨h1,by omega⟩ (by omega) (by simp) ⟨[],rfl⟩ (by simp) (by simp)
 ·rw[asvI_end (by omega)]at h1;refine wx ?_;simp -dsimp[show ¬((i:Int)+1)<(l.length:Int) by omega];refine hQ _ _ _ ?_;simp -dsimp[];rw[←h1];simp
end
end Go.Proofs.YtdnhplencamncaaGreatDoor
namespace Go.Proofs.YtdnhplencamncaaGreatDoor
section
open Go Go.AM Go.RowKit Go.Lib
theorem infoG_Z:(Tryz.prog.info? 2).map (fun i=>(i.zero,i.size,i.bytes))=some (some (.int .i64 0),1,8):=by kernel_rfl
theorem growPos_Z(n:Nat)(w:World)(h0:0<n)(hn:n≤1000000):Calls Tryz.prog 319 #[.slice none 0 0,.int .i64 n] w fun e w' =>
   e = .returned (.slice (some ⟨w.heap.size,0,none⟩) 0 (grownCap w n 0 2))∧w'=w.drew.alloc (.cells (Builtin.zeroCells (.int .i64 0:Value).cells n++Builtin.zeroCells (.int .i64 0:Value).cells (grownCap w n 0 2-n)) 2):=by
 obtain⟨i0,hi0,hz0,hs0,hby⟩:=info_parts infoG_Z
 have h1:¬((n:Int)<0):=by omega
 have hz25:∀w,(Go.sizeOf 2).run Tryz.prog w = .ok 1 w:=fun w=>by simp[Go.sizeOf,typeInfo,hi0,hs0]
 have hold:(Builtin.firstCells i0.size 0 (.slice none 0 0)).run Tryz.prog w.drew = .ok ([]:List Value).toArray w.drew:=run_firstCells_none w.drew i0.size 0 0 0
 have hbig:(0+n)*i0.bytes≤140737488355328:=by rw[hby];omega
 have hrz:∀ty,(Builtin.append_ #[106,3] ty #[.slice none 0 0,.int .i64 (n:Int)]).run Tryz.prog w =
   .ok (.slice (some ⟨w.heap.size,0,none⟩) n (grownCap w n 0 2)) (w.drew.alloc (.cells (Builtin.zeroCells (.int .i64 0:Value).cells n++Builtin.zeroCells (.int .i64 0:Value).cells (grownCap w n 0 2-n)) 2)):=fun ty=>by
  have h:=Lib.run_append_grow_zeros (P:=Tryz.prog) w 106 3 ty 2 i0 _ .i64 .i64 Tryz.underlying106 Tryz.underlying3 hi0 hz0 none 0 0 [] hold n h0 (by omega) (by omega) (by omega)
   (by rw[hby];omega)
   (growslice_fits (by omega) hbig)
  simpa using h
 have hGn:n≤grownCap w n 0 2:=grownCap_ge w _ _ _;obtain⟨G,hG⟩:∃G,G=grownCap w n 0 2:=⟨_,rfl⟩;rw[←hG]at hrz hGn ⊢
 have hG63:G≤9223372036854775807:=by
  have:=grownCap_le_maxLen w n 0 2 (by unfold maxLen;omega);rw[←hG]at this;unfold maxLen at this;omega
 have h2:RowKit.wrap64 ((0:Int)-0)=0:=by unfold RowKit.wrap64;omega
 have h3:RowKit.wrap64 ((n:Int)-0)=(n:Int):=by unfold RowKit.wrap64;omega
 have h4:(n:Int)> 0:=by omega
 clear hold hG hbig
 go_enter Tryz.func319,Tryz.ntmps319
 go_wp2_with (at_builtin;refine Lib.wpList_append_run _ rfl _ _ _ _ rfl _ _ rfl rfl _ _ (hrz _) ?_)
 all_goals (go_ret;exact⟨rfl,rfl⟩)
theorem growNil_Z(w:World):Calls Tryz.prog 319 #[.slice none 0 0,.int .i64 0] w fun e w'=>e = .returned (.slice none 0 0)∧w'=w:=by
 go_enter Tryz.func319,Tryz.ntmps319
 go_wp2
 go_ret
 exact⟨rfl,rfl⟩
theorem grow_con_Z(n:Nat)(hn:n≤1000000):dr Tryz.prog 319 [.nilS,.int .i64 n] fun e z ys=>e=2∧z=1∧ys=[]:=by
 refine fY ⟨Tryz.f319,Tryz.func319,rfl,rfl⟩ (fun F w vals hsz hrel=>?_)
 obtain⟨u0,u1,rfl⟩:∃u0 u1,vals = #[u0,u1]:=by
  obtain⟨l⟩:=vals
  match l,hsz with
  | [a,b],_=>exact⟨a,b,rfl⟩
 have r0:=hrel 0 _ u0 rfl rfl;have r1:=hrel 1 _ u1 rfl rfl;cases r0;cases r1;by_cases h0:n=0
 ·subst h0
  exact(growNil_Z w).mono fun e w' ⟨h1,h2⟩=>⟨_,h1,by subst h2;exact Below.refl _ _,.inl rfl⟩
 ·refine(growPos_Z n w (by omega) hn).mono fun e w' ⟨h1,h2⟩=>?_
  subst h2;have hge:=grownCap_ge w n 0 2;refine⟨_,h1,((Below.refl _ _).drew).alloc (oJ _) _,.inr ⟨w.heap.size,grownCap w n 0 2,Builtin.zeroCells (.int .i64 0:Value).cells n++Builtin.zeroCells (.int .i64 0:Value).cells (grownCap w n 0 2-n),rfl,oJ _,?_,by omega,grownCap_le_maxLen w n 0 2 (by unfold maxLen;omega),?_⟩⟩
  ·exact qR (xs:=w.heap)
  ·rw[qN,size_zeroCells,size_zeroCells,←ov,qb hge];rfl
theorem grow_nil_Z:aJ Tryz.prog 319 [.nilS,.int .i64 0] fun r=>r = .nilS:=by
 refine⟨⟨Tryz.f319,Tryz.func319,rfl,rfl⟩,fun F w vals hZ hF hsz hrel=>?_⟩
 obtain⟨u0,u1,rfl⟩:∃u0 u1,vals = #[u0,u1]:=by
  obtain⟨l⟩:=vals
  match l,hsz with
  | [a,b],_=>exact⟨a,b,rfl⟩
 have r0:=hrel 0 _ u0 rfl rfl;have r1:=hrel 1 _ u1 rfl rfl;cases r0;cases r1
 refine(growNil_Z w).mono fun e w' ⟨h1,h2⟩=>⟨_,_,h1,.nilS,.nilS,by subst h2;exact Below.refl _ _,rfl⟩
end
end Go.Proofs.YtdnhplencamncaaGreatDoor
section

end
