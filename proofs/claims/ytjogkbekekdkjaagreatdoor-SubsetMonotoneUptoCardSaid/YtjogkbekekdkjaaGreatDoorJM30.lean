/- JM30: own texts of this seat, joined and shortened by pack4.py: SC11, SC4. -/
import Derived.Test.YtjogkbekekdkjaaGreatDoorJM29
set_option linter.unusedVariables false
set_option linter.unusedSimpArgs false
set_option maxRecDepth 100000
set_option maxHeartbeats 64000000
open Bool renaming true_and→pP
open ByteArray renaming empty→pE
open Int renaming tmod_lt_of_pos→pq,tmod_nonneg→pw
open List renaming replicate→ou,getElem_mem→ow,not_mem_nil→pA,mem_cons→pD,map_append→qB,range_succ→qI,getD→qZ,length_nil→qn
open Nat renaming mod_lt→sD
namespace Go.Proofs.YtjogkbekekdkjaaGreatDoor
section
open Go Go.AM
def bL(f f2 f3:Bool)(x:Rcp)(rs:List Rul)(ws:List Int):V:=.agg [.int .u8 x.a,.int .u8 x.gap,.lst 1 f (x.rows.map LU),.lst 10 f2 (rs.map aq),.lst 1 f3 (ws.map bp)]
def ofT(x:Rcp):Tb:=if x.rows.length≤6 then ia x else⟨pE,[],[]⟩
def ofL4(x:Rcp)(rs:List Rul):List Cn:=if rs.all cR=true then rs.map (iS (ofT x).attrs.length) else []
def mS(x:Rcp)(rs:List Rul):Bool:=decide (x.rows.length≤6)&&rs.all cR&&decide (rs.length≤4)
structure C4Ok (x:Rcp) (rs:List Rul) (ws:List Int):Prop where
 a:0≤x.a∧x.a<256
 gap:0≤x.gap
 len:∀r∈x.rows,r.length≤9223372036854775807
 rl:rs.length≤1048576
 r:∀r∈rs,RulOk r
 w:∀c∈ws,0≤c∧c<256
theorem fg(ws:List Int):wOf 0 ws=[]:=by unfold wOf;split<;>rfl
theorem wOf_succ{ws:List Int}(h:0<ws.length)(i:Nat):wOf (i+1) ws=wOf i ws++[1+(ws.getD (i % ws.length) 0).tmod 20]:=by
 have h0:ws≠[]:=List.length_pos_iff.1 h;unfold wOf;rw[if_neg h0,if_neg h0,qI,qB];rfl
theorem fT(n:Nat):wOf n []=[]:=by unfold wOf;rw[if_pos rfl]
theorem wOf_len2{ws:List Int}(h:0<ws.length)(i:Nat):(wOf i ws).length=i:=by
 unfold wOf;rw[if_neg (List.length_pos_iff.1 h)];simp
theorem le_tb0:Le (.agg [.str pE,.nilS,.nilS]) (aF false false ⟨pE,[],[]⟩):=.agg _ _ rfl (fun i c d h3 h4=>by
 match i with
 | 0=>simp at h3 h4;subst h3;subst h4;exact .refl _
 | 1=>simp[LS]at h3 h4;subst h3;subst h4;exact .nil _ _
 | 2=>simp[LR]at h3 h4;subst h3;subst h4;exact .nil _ _
 | n+3=>simp at h3)
theorem le_tup4{a b c d a' b' c' d':V}(h1:Le a a')(h2:Le b b')(h3:Le c c')(h4:Le d d'):Le (.tup [a,b,c,d]) (.tup [a',b',c',d']):=.tup _ _ rfl (fun i x y hx hy=>by
 match i with
 | 0=>simp at hx hy;subst hx;subst hy;exact h1
 | 1=>simp at hx hy;subst hx;subst hy;exact h2
 | 2=>simp at hx hy;subst hx;subst hy;exact h3
 | 3=>simp at hx hy;subst hx;subst hy;exact h4
 | n+4=>simp at hx)
theorem u8_mod{c:Int}(h:0≤c∧c<256):IntKind.u8.wrap (c.tmod 20)=c.tmod 20∧IntKind.i64.wrap (c.tmod 20)=c.tmod 20∧IntKind.i64.wrap (1+c.tmod 20)=1+c.tmod 20:=by
 have a1:=pw 20 h.1;have a2:=pq c (show(0:Int)<20 by omega);refine⟨by rw[IntKind.wrap_u8];omega,wrap64 (by omega) (by omega),wrap64 (by omega) (by omega)⟩
theorem of_41(x:Rcp)(rs:List Rul)(ws:List Int)(f f2 f3:Bool)(h:C4Ok x rs ws):aE Tryz.prog 11 [bL f f2 f3 x rs ws] fun r=>r = .tup [aF false false (ofT x),LCn false (ofL4 x rs),L1 false (wOf (ofT x).rows.length ws),.bool (mS x rs)]:=by
 have c1:=table03 x f h.a h.gap h.len;by_cases h6:x.rows.length≤6
 case neg =>
  have hT:ofT x=⟨pE,[],[]⟩:=by unfold ofT;rw[if_neg h6]
  have hB:mS x rs=false:=by unfold mS;rw[decide_eq_false h6];rfl
  have hrl:=h.rl;have c2:=rules37 0 rs f2 (by omega) (by omega) h.r;rw[if_neg h6]at c1;unfold ofL4;rw[hT,hB];simp only[qn,fg,bD]at c1 ⊢;by_cases hall:rs.all cR=true
  ·rw[if_pos hall];rw[show rlV 0 rs = .tup [LCn false (rs.map (iS 0)),.bool (decide (rs.length≤4))] from by unfold rlV;rw[if_pos hall]]at c2;obtain⟨b4,hb4⟩:∃b4,b4=decide (rs.length≤4):=⟨_,rfl⟩;rw[←hb4]at c2;obtain⟨A,hA⟩:∃A,A=rs.map (iS 0):=⟨_,rfl⟩;rw[←hA]at c2 ⊢;refine gV (v:=.tup [.agg [.str pE,.nilS,.nilS],LCn false A,.nilS,.bool false]) ?_ (le_tup4 le_tb0 (.refl _) (.nil _ _) (.refl _)) (by simp);simp only[LCn]at c2 ⊢;refine sPx Tryz.func11 rfl rfl ?_;simp -dsimp[Tryz.f11,ou,bL];refine cPx (c1) (by simp) ?_;simp -dsimp[];refine cPx (c2) (by simp) ?_;simp -dsimp[];refine aR (W_loopM 55 0x7ffffff9049c00 (by simp[mB]<;>rfl) (σ:=Unit) (fun _=>True) (fun _=>0) (fun _=>[(11,.int .i64 0),(10,.nilS)]) (fun _=>[B.cells [.int .u8 x.a,.int .u8 x.gap,.lst 1 f (x.rows.map LU),.lst 10 f2 (rs.map aq),.lst 1 f3 (ws.map bp)],B.cells [.str pE,.nilS,.nilS],B.cells [.str pE,.nilS,.nilS]]) () trivial (by simp) (by simp) (by simp) ?_);rintro⟨⟩ _ N Q hN hQ;refine wx ?_;simp -dsimp[];refine hQ _ _ _ ?_;simp -dsimp[]
  ·rw[if_neg hall];rw[show rlV 0 rs = .tup [.nilS,.bool false] from by unfold rlV;rw[if_neg hall]]at c2;refine gV (v:=.tup [.agg [.str pE,.nilS,.nilS],.nilS,.nilS,.bool false]) ?_ (le_tup4 le_tb0 (.nil _ _) (.nil _ _) (.refl _)) (by simp);refine sPx Tryz.func11 rfl rfl ?_;simp -dsimp[Tryz.f11,ou,bL];refine cPx (c1) (by simp) ?_;simp -dsimp[];refine cPx (c2) (by simp) ?_;simp -dsimp[];refine aR (W_loopM 55 0x7ffffff9049c00 (by simp[mB]<;>rfl) (σ:=Unit) (fun _=>True) (fun _=>0) (fun _=>[(11,.int .i64 0),(10,.nilS)]) (fun _=>[B.cells [.int .u8 x.a,.int .u8 x.gap,.lst 1 f (x.rows.map LU),.lst 10 f2 (rs.map aq),.lst 1 f3 (ws.map bp)],B.cells [.str pE,.nilS,.nilS],B.cells [.str pE,.nilS,.nilS]]) () trivial (by simp) (by simp) (by simp) ?_);rintro⟨⟩ _ N Q hN hQ;refine wx ?_;simp -dsimp[];refine hQ _ _ _ ?_;simp -dsimp[]
 case pos =>
 have hT:ofT x=ia x:=by unfold ofT;rw[if_pos h6]
 rw[if_pos h6]at c1;have hxo:RcpOk x:=⟨h.a,h.gap,h6,h.len⟩;have hw:=(tbC (nC hxo).2).wide;have hrl:=h.rl;have hrr:=kS x;have c2:=rules37 (ia x).attrs.length rs f2 hw (by omega) h.r
 have hB:mS x rs=(rs.all cR&&decide (rs.length≤4)):=by unfold mS;rw[decide_eq_true h6,pP]
 unfold ofL4;rw[hT,hB];obtain⟨t,ht⟩:∃t,t=ia x:=⟨_,rfl⟩;rw[←ht]at c1 c2 hw hrr ⊢
 have htr:∀n,rbB n (tcB t false false):=fun n=>iK n t false false
 have htB:B.cells [.str t.name,.lst 1 false (t.attrs.map V.str),.lst 2 false (t.rows.map aT)]=tcB t false false:=rfl
 have hlen6:t.rows.length≤6:=by omega
 have hwk:=h.w
 obtain⟨LV1,B1,hlv,hrl2,hLe,hPu,hrbL⟩:∃(LV1:V) (B1:Bool),rlV t.attrs.length rs = .tup [LV1,.bool B1]∧B1=(rs.all cR&&decide (rs.length≤4))∧Le LV1 (LCn false (if rs.all cR=true then rs.map (iS t.attrs.length) else []))∧AM.Pure LV1∧(LV1 = .nilS∨∃A:List Cn,LV1 = .lst 18 false (A.map cE)):=by
  by_cases hall:rs.all cR=true
  ·exact⟨LCn false (rs.map (iS t.attrs.length)),decide (rs.length≤4),by unfold rlV;rw[if_pos hall],by rw[hall];rfl,by rw[if_pos hall];exact .refl _,by simp,.inr ⟨_,rfl⟩⟩
  ·refine⟨.nilS,false,by unfold rlV;rw[if_neg hall],?_,by rw[if_neg hall];exact .nil _ _,.nilS,.inl rfl⟩;rw[Bool.eq_false_iff.2 hall];rfl
 rw[hlv]at c2;rw[←hrl2];refine gV (v:=.tup [aF false false t,LV1,L1 false (wOf t.rows.length ws),.bool B1]) ?_ (le_tup4 (.refl _) hLe (.refl _) (.refl _)) (by simp);simp only[bD,aF,LS,LR]at c1
 have hrb:∀(l:List Int),∀bl∈[B.cells [.int .u8 x.a,.int .u8 x.gap,.lst 1 f (x.rows.map LU),.lst 10 f2 (rs.map aq),.lst 1 f3 (ws.map bp)],B.cells [.str pE,.nilS,.nilS],tcB t false false,B.buf 2 1 (l.map au) false],rbB 4 bl:=fun l bl hbl=>by
  simp only[pD,pA,or_false]at hbl
  rcases hbl with rfl | rfl | rfl | rfl
  ·intro c hc;simp only[pD,pA,or_false]at hc;rcases hc with rfl | rfl | rfl | rfl | rfl<;>simp[rb,rb1]
  ·intro c hc;simp only[pD,pA,or_false]at hc;rcases hc with rfl | rfl | rfl<;>simp[rb,rb1]
  ·exact htr _
  ·exact nL _ _ _ _
 rcases hrbL with rfl | ⟨A,rfl⟩
 case' inl =>
  refine sPx Tryz.func11 rfl rfl ?_;simp -dsimp[Tryz.f11,ou,bL];refine cPx (c1) (by simp) ?_;simp -dsimp[];refine cPx (c2) (by simp) ?_;simp -dsimp[htB]
 case' inr =>
  refine sPx Tryz.func11 rfl rfl ?_;simp -dsimp[Tryz.f11,ou,bL];refine cPx (c1) (by simp) ?_;simp -dsimp[];refine cPx c2 (by simp) ?_;simp -dsimp[htB]
 all_goals
  refine aR (iR 2 1 [10] (by simp) (W_loopM 55 0x7ffffff9049c00 (by simp[mB]<;>rfl) (σ:=Nat) (fun i=>i≤t.rows.length) (fun i=>t.rows.length-i) (fun i=>[(11,.int .i64 i),(10,.buf 3 0 (wOf i ws).length (wOf i ws).length)]) (fun i=>[B.cells [.int .u8 x.a,.int .u8 x.gap,.lst 1 f (x.rows.map LU),.lst 10 f2 (rs.map aq),.lst 1 f3 (ws.map bp)],B.cells [.str pE,.nilS,.nilS],tcB t false false,B.buf 2 1 ((wOf i ws).map au) false]) 0 (by omega) (by simp[fg]) (by simp[fg]) (by simp) ?_));intro i hi N Q hN hQ;by_cases hw0:0<ws.length
  ·by_cases hib:i<t.rows.length
   ·have hs:=wOf_succ hw0 i;have hl:=wOf_len2 hw0 i;have hm:i % ws.length<ws.length:=sD i hw0
    have hg:ws.getD (i % ws.length) 0=ws[i % ws.length]:=by simp[qZ,hm]
    have hmi:((i:Int).tmod ws.length)=((i % ws.length:Nat):Int):=rfl;have hc:=hwk _ (ow hm);obtain⟨c,hce⟩:∃c,c=ws[i % ws.length]:=⟨_,rfl⟩;rw[hg,←hce]at hs;rw[←hce]at hc;obtain⟨m1,m2,m3⟩:=u8_mod hc;obtain⟨k,hk⟩:∃k,k=i % ws.length:=⟨_,rfl⟩
    have hce2:c=ws[k]'(by rw[hk];exact hm):=by subst hk;exact hce
    have hki:k≤i:=by rw[hk];exact Nat.mod_le _ _
    rw[←hk]at hm hmi;obtain⟨l,hle⟩:∃l,l=wOf i ws:=⟨_,rfl⟩;rw[←hle]at hs hl ⊢;refine wx ?_;simp -dsimp[hib,hw0,tcB,show(0:Int)<ws.length by omega];refine aR (ao tok mixed [14] [] [] (by kernel_rfl) fun C K hC hK=>?_);simp -implicitDefEqProofs [hib,hw0,tcB,bp,hmi,hm,hce2.symm,m1,m2,m3,hl,cap8 i (by omega),eJ i (by omega),eJ k (by omega),show ¬(ws.length:Int)=0 by omega,show ¬ws.length=0 by omega];refine hK _ _ ?_;simp -dsimp[aa i (by omega)];refine hN (i+1) _ _ (by omega) (by omega) (by simp[hs,hl]) ⟨[],by simp[hs,au,tcB]⟩ (by simp) (hrb _)
   ·obtain rfl:i=t.rows.length:=by omega
    refine gY 3 [10] rfl (by simp) ?_;refine wx ?_;simp -dsimp[hib,hw0,tcB];refine hQ _ _ _ ?_;simp -dsimp[tcB];simp[aF,LS,LR,L1,fT]
  ·have hws:ws=[]:=by
    match ws,hw0 with
    | [],_=>rfl
    | _::_,hq=>simp at hq
   subst hws;rw[fT];refine gY 3 [10] rfl (by simp) ?_;by_cases hib:i<t.rows.length
   ·refine wx ?_;simp -dsimp[hib,tcB];refine hQ _ _ _ ?_;simp -dsimp[tcB];simp[aF,LS,LR,L1,fT]
   ·refine wx ?_;simp -dsimp[hib,tcB];refine hQ _ _ _ ?_;simp -dsimp[tcB];simp[aF,LS,LR,L1,fT]
end
end Go.Proofs.YtjogkbekekdkjaaGreatDoor
section
namespace Go.Proofs.YtjogkbekekdkjaaGreatDoor
open Go Go.AM
end Go.Proofs.YtjogkbekekdkjaaGreatDoor
end
