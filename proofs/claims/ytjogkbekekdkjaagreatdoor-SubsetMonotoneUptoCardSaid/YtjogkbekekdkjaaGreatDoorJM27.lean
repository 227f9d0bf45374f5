/- JM27: own texts of this seat, joined and shortened by pack4.py: GrN, CatN. -/
import Derived.Test.YtjogkbekekdkjaaGreatDoorJM16
import Derived.WalkKit
import Derived.Lib.Walk
import Derived.Lib.SliceRun
import Derived.Lib.AppendZerosOnto
import Derived.OwnWalk
set_option linter.unusedVariables false
set_option linter.unusedSimpArgs false
set_option maxRecDepth 100000
set_option maxHeartbeats 64000000
open Array renaming size_append→ro
open List renaming replicate→ou,getElem_mem→ow,take_succ_eq_append_getElem→pJ,length_append→pK,append_nil→pL,mem_of_mem_take→pi,take_length→pt,map_append→qB,take_append_drop→qF,flatten_append→sA
open Nat renaming le_refl→pI,add_mul→pf
namespace Go.Proofs.YtjogkbekekdkjaaGreatDoor
section
open Go Go.AM Go.RowKit Go.Lib
theorem infoG_N:(Tryz.prog.info? 77).map (fun i=>(i.zero,i.size,i.bytes))=some (some (.agg #[.int .i64 0,.slice none 0 0]),2,32):=by kernel_rfl
theorem growPos_N(n:Nat)(w:World)(h0:0<n)(hn:n≤1000000):Calls Tryz.prog 216 #[.slice none 0 0,.int .i64 n] w fun e w' =>
   e = .returned (.slice (some ⟨w.heap.size,0,none⟩) 0 (grownCap w n 0 77))∧w'=w.drew.alloc (.cells (Builtin.zeroCells (.agg #[.int .i64 0,.slice none 0 0]:Value).cells n++Builtin.zeroCells (.agg #[.int .i64 0,.slice none 0 0]:Value).cells (grownCap w n 0 77-n)) 77):=by
 obtain⟨i0,hi0,hz0,hs0,hby⟩:=info_parts infoG_N
 have h1:¬((n:Int)<0):=by omega
 have hz25:∀w,(Go.sizeOf 77).run Tryz.prog w = .ok 2 w:=fun w=>by simp[Go.sizeOf,typeInfo,hi0,hs0]
 have hold:(Builtin.firstCells i0.size 0 (.slice none 0 0)).run Tryz.prog w.drew = .ok ([]:List Value).toArray w.drew:=run_firstCells_none w.drew i0.size 0 0 0
 have hbig:(0+n)*i0.bytes≤140737488355328:=by rw[hby];omega
 have hrz:∀ty,(Builtin.append_ #[66,3] ty #[.slice none 0 0,.int .i64 (n:Int)]).run Tryz.prog w =
   .ok (.slice (some ⟨w.heap.size,0,none⟩) n (grownCap w n 0 77)) (w.drew.alloc (.cells (Builtin.zeroCells (.agg #[.int .i64 0,.slice none 0 0]:Value).cells n++Builtin.zeroCells (.agg #[.int .i64 0,.slice none 0 0]:Value).cells (grownCap w n 0 77-n)) 77)):=fun ty=>by
  have h:=Lib.run_append_grow_zeros (P:=Tryz.prog) w 66 3 ty 77 i0 _ .i64 .i64 Tryz.underlying66 Tryz.underlying3 hi0 hz0 none 0 0 [] hold n h0 (by omega) (by omega) (by omega)
   (by rw[hby];omega)
   (growslice_fits (by omega) hbig)
  simpa using h
 have hGn:n≤grownCap w n 0 77:=grownCap_ge w _ _ _;obtain⟨G,hG⟩:∃G,G=grownCap w n 0 77:=⟨_,rfl⟩;rw[←hG]at hrz hGn ⊢
 have hG63:G≤9223372036854775807:=by
  have:=grownCap_le_maxLen w n 0 77 (by unfold maxLen;omega);rw[←hG]at this;unfold maxLen at this;omega
 have h2:RowKit.wrap64 ((0:Int)-0)=0:=by unfold RowKit.wrap64;omega
 have h3:RowKit.wrap64 ((n:Int)-0)=(n:Int):=by unfold RowKit.wrap64;omega
 have h4:(n:Int)> 0:=by omega
 clear hold hG hbig
 go_enter Tryz.func216,Tryz.ntmps216
 go_wp2_with (at_builtin;refine Lib.wpList_append_run _ rfl _ _ _ _ rfl _ _ rfl rfl _ _ (hrz _) ?_)
 all_goals (go_ret;exact⟨rfl,rfl⟩)
theorem growNil_N(w:World):Calls Tryz.prog 216 #[.slice none 0 0,.int .i64 0] w fun e w'=>e = .returned (.slice none 0 0)∧w'=w:=by
 go_enter Tryz.func216,Tryz.ntmps216
 go_wp2
 go_ret
 exact⟨rfl,rfl⟩
theorem oC(n:Nat)(hn:n≤1000000):fQ Tryz.prog 216 [.nilS,.int .i64 n] fun e z ys=>e=77∧z=2∧ys=[]:=by
 refine conO_row ⟨Tryz.f216,Tryz.func216,rfl,rfl⟩ (fun F w vals hsz hrel=>?_)
 obtain⟨u0,u1,rfl⟩:∃u0 u1,vals = #[u0,u1]:=by
  obtain⟨l⟩:=vals
  match l,hsz with
  | [a,b],_=>exact⟨a,b,rfl⟩
 have r0:=hrel 0 _ u0 rfl rfl;have r1:=hrel 1 _ u1 rfl rfl;cases r0;cases r1;by_cases h0:n=0
 ·subst h0
  exact(growNil_N w).mono fun e w' ⟨h1,h2⟩=>⟨_,h1,by subst h2;exact Below.refl _ _,.inl rfl⟩
 ·refine(growPos_N n w (by omega) hn).mono fun e w' ⟨h1,h2⟩=>?_
  subst h2;have hge:=grownCap_ge w n 0 77;refine⟨_,h1,((Below.refl _ _).drew).alloc (pI _) _,.inr ⟨w.heap.size,grownCap w n 0 77,Builtin.zeroCells (.agg #[.int .i64 0,.slice none 0 0]:Value).cells n++Builtin.zeroCells (.agg #[.int .i64 0,.slice none 0 0]:Value).cells (grownCap w n 0 77-n),rfl,pI _,?_,by omega,grownCap_le_maxLen w n 0 77 (by unfold maxLen;omega),?_⟩⟩
  ·exact Array.getElem?_push_size (xs:=w.heap)
  ·rw[ro,size_zeroCells,size_zeroCells,←pf,Nat.add_sub_cancel' hge];rfl
theorem grow_nil_N:aE Tryz.prog 216 [.nilS,.int .i64 0] fun r=>r = .nilS:=by
 refine⟨⟨Tryz.f216,Tryz.func216,rfl,rfl⟩,fun F w vals hZ hF hsz hrel=>?_⟩
 obtain⟨u0,u1,rfl⟩:∃u0 u1,vals = #[u0,u1]:=by
  obtain⟨l⟩:=vals
  match l,hsz with
  | [a,b],_=>exact⟨a,b,rfl⟩
 have r0:=hrel 0 _ u0 rfl rfl;have r1:=hrel 1 _ u1 rfl rfl;cases r0;cases r1
 refine(growNil_N w).mono fun e w' ⟨h1,h2⟩=>⟨_,_,h1,.nilS,.nilS,by subst h2;exact Below.refl _ _,rfl⟩
end
end Go.Proofs.YtjogkbekekdkjaaGreatDoor
namespace Go.Proofs.YtjogkbekekdkjaaGreatDoor
section
open Go Go.AM Go.RowKit
structure FlV where
 f:Bool
 xs:List V
def jv(l:FlV):V:=.lst 2 l.f l.xs
def jM(ls:List FlV):List V:=(ls.map (·.xs)).flatten
theorem catL_succ(ls:List FlV)(i:Nat)(h:i<ls.length):jM (ls.take (i+1))=jM (ls.take i)++ls[i].xs:=by
 unfold jM;rw[pJ h,qB,sA];simp
theorem catL_le(ls:List FlV)(i:Nat):(jM (ls.take i)).length≤(jM ls).length:=by
 conv=>rhs;rw[←qF i ls]
 unfold jM;rw[qB,sA,pK];omega
theorem me{ls:List FlV}(hp:∀l∈ls,∀x∈l.xs,AM.Pure x∧cq x=true∧x.cells.length=2):∀x∈jM ls,AM.Pure x∧cq x=true:=by
 intro x hx;obtain⟨l,hl,h⟩:=List.mem_flatten.1 hx;obtain⟨y,hy,rfl⟩:=List.mem_map.1 hl;exact⟨(hp y hy x h).1,(hp y hy x h).2.1⟩
theorem catW_N(n:Nat)(h:n≤1000000):n≤9223372036854775807∧n*32≤140737488355328:=by omega
theorem concat_N(ls:List FlV)(g:Bool)(hp:∀l∈ls,∀x∈l.xs,AM.Pure x∧cq x=true∧x.cells.length=2)(hl:ls.length≤1000000)(hs:(jM ls).length≤1000000):aE Tryz.prog 152 [.lst 1 g (ls.map jv)] fun r=>r = .lst 2 false (jM ls):=by
 have htl:=fun i=>catL_le ls i
 have hpF:∀l∈ls,AM.Pure (jv l):=fun l hl=>.lst _ _ _ (fun x hx=>(hp l hl x hx).1)
 refine sPx Tryz.func152 rfl rfl ?_;simp -dsimp[Tryz.f152,ou,jv];refine aR (W_loopM 23 0x7ff828 (by simp[mB]<;>rfl) (σ:=Nat) (fun i=>i≤ls.length) (fun i=>ls.length-i) (fun i=>[(11,.int .i64 i),(3,.int .i64 ((jM (ls.take i)).length:Nat))]) (fun _=>[]) 0 (by omega) (by simp[jM]) rfl (by simp) ?_);intro i hi N Q hN hQ;by_cases hb:i<ls.length
 ·have hsu:=catL_succ ls i hb;have h1:=htl i;have h2:=htl (i+1);rw[hsu,pK]at h2;obtain⟨c,hc⟩:∃c,c=(jM (ls.take i)).length:=⟨_,rfl⟩;rw[←hc]at h1 h2
  have hlx:(jM (ls.take (i+1))).length=c+ls[i].xs.length:=by rw[hsu,pK,hc]
  obtain⟨x,hx⟩:∃x,x=ls[i]:=⟨_,rfl⟩;rw[←hx]at h2 hlx;have hx':=hx.symm;obtain⟨d,hd⟩:∃d,d=c+x.xs.length:=⟨_,rfl⟩
  have hw:IntKind.i64.wrap ((c:Int)+(x.xs.length:Int))=(d:Int):=by rw[wrap64 (by omega) (by omega),hd];push_cast;rfl
  refine wx ?_;simp -dsimp[hb,hx',hw,show ¬(d:Int)<0 by omega,aa i (by omega),←hc,jv];refine hN (i+1) _ _ (by omega) (by omega) (by simp[hlx,hd]) ⟨[],rfl⟩ (by simp;exact hpF) (by simp)
 ·obtain rfl:i=ls.length:=by omega
  rw[pt];have hg:=mJ (H:=[]) (oC (jM ls).length hs) (by simp);refine wx ?_;simp -dsimp[hb,jv];refine hQ _ _ _ ?_;simp -dsimp[jv];refine hg.mono ?_;rintro r H' ⟨e,z,xs,rfl,rfl,_,rfl,rfl,rfl⟩;simp -dsimp[jv];refine aR (W_loopM 35 0x7f8000140 (by simp[mB]<;>rfl) (σ:=Nat) (fun i=>i≤ls.length) (fun i=>ls.length-i) (fun i=>[(27,.int .i64 i),(6,.buf 0 0 (jM (ls.take i)).length (jM (ls.take i)).length)]) (fun i=>[B.buf 77 2 (jM (ls.take i)) false]) 0 (by omega) (by simp[jM]) (by simp[jM]) (by simp) ?_);intro i hi N2 Q2 hN2 hQ2;by_cases hb:i<ls.length
  ·have hsu:=catL_succ ls i hb;have h2:=htl (i+1);have hpi:=hp ls[i] (ow hb);have hpc:=me (ls:=ls.take (i+1)) (fun l hl=>hp l (pi hl));obtain⟨x,hx⟩:∃x,x=ls[i]:=⟨_,rfl⟩;rw[←hx]at hsu hpi;have hx':=hx.symm;rw[hsu]at h2 hpc;obtain⟨xs,hxs⟩:∃xs,xs=x.xs:=⟨_,rfl⟩;have hxs':=hxs.symm;rw[←hxs]at hsu h2 hpc hpi;by_cases h0:xs=[]
   ·rw[h0,pL]at hsu;refine wx ?_;simp -dsimp[hb,hx',hxs',h0,aa i (by omega),jv];refine hN2 (i+1) _ _ (by omega) (by omega) (by simp[hsu]) ⟨[],by simp[hsu]⟩ (by simp;exact hpF) (by rw[h0,pL]at hpc;intro bl hbl;rcases List.mem_cons.1 hbl with rfl | hbl;exact(rbB_buf1 (by rw[hsu];exact hpc)).2 trivial;cases hbl)
   ·obtain⟨c,hc⟩:∃c,c=jM (ls.take i):=⟨_,rfl⟩;rw[←hc]at hsu h2 hpc;rw[pK]at h2;refine wx ?_;simp -dsimp[hb,hx',hxs',h0,aa i (by omega),←hc,catW_N (c.length+xs.length) (by omega),jv];refine hN2 (i+1) _ _ (by omega) (by omega) (by simp[hsu]) ⟨[],by simp[hsu]⟩ (by simp;exact hpF) (by intro bl hbl;rcases List.mem_cons.1 hbl with rfl | hbl;exact(rbB_buf1 (by rw[hsu];exact hpc)).2 trivial;cases hbl)
  ·obtain rfl:i=ls.length:=by omega
   rw[pt];refine wx ?_;simp -dsimp[hb,jv];refine hQ2 _ _ _ ?_;simp -dsimp[jv];exact⟨lz rfl rfl (fun x hx=>(me hp x hx).1),fun x hx=>(me hp x hx).1⟩
end
end Go.Proofs.YtjogkbekekdkjaaGreatDoor
