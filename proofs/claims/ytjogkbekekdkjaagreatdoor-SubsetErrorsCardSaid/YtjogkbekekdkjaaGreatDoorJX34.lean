/- JX34: own texts of this seat, joined and shortened by pack4.py: SC11, SC7. -/
import Derived.Test.YtjogkbekekdkjaaGreatDoorJX33
set_option linter.unusedVariables false
set_option linter.unusedSimpArgs false
set_option maxRecDepth 100000
set_option maxHeartbeats 64000000
open Bool renaming true_and→re
open ByteArray renaming empty→rY
open Int renaming tmod_lt_of_pos→sR,tmod_nonneg→sW
open List renaming replicate→rO,getElem_mem→rQ,not_mem_nil→rS,mem_cons→rU,length_filter_le→rz,map_append→sX,range_succ→si,getD→tO,length_nil→td
open Nat renaming mod_lt→uX
namespace Go.Proofs.YtjogkbekekdkjaaGreatDoor
section
open Go Go.AM
def cF(f f2 f3:Bool)(x:Rcp)(rs:List Rul)(ws:List Int):V:=.agg [.int .u8 x.a,.int .u8 x.gap,.lst 1 f (x.rows.map LU),.lst 10 f2 (rs.map bd),.lst 1 f3 (ws.map eH)]
def ofT(x:Rcp):Tb:=if x.rows.length≤6 then eV x else⟨rY,[],[]⟩
def mH(x:Rcp)(rs:List Rul):List Cn:=if rs.all ez=true then rs.map (eW (ofT x).attrs.length) else []
def pi(x:Rcp)(rs:List Rul):Bool:=decide (x.rows.length≤6)&&rs.all ez&&decide (rs.length≤4)
structure C4Ok (x:Rcp) (rs:List Rul) (ws:List Int):Prop where
 a:0≤x.a∧x.a<256
 gap:0≤x.gap
 len:∀r∈x.rows,r.length≤9223372036854775807
 rl:rs.length≤1048576
 r:∀r∈rs,RulOk r
 w:∀c∈ws,0≤c∧c<256
theorem pG(ws:List Int):wOf 0 ws=[]:=by unfold wOf;split<;>rfl
theorem wOf_succ{ws:List Int}(h:0<ws.length)(i:Nat):wOf (i+1) ws=wOf i ws++[1+(ws.getD (i % ws.length) 0).tmod 20]:=by
 have h0:ws≠[]:=List.length_pos_iff.1 h;unfold wOf;rw[if_neg h0,if_neg h0,si,sX];rfl
theorem oT(n:Nat):wOf n []=[]:=by unfold wOf;rw[if_pos rfl]
theorem wOf_len2{ws:List Int}(h:0<ws.length)(i:Nat):(wOf i ws).length=i:=by
 unfold wOf;rw[if_neg (List.length_pos_iff.1 h)];simp
theorem le_tb0:Le (.agg [.str rY,.nilS,.nilS]) (aD false false ⟨rY,[],[]⟩):=.agg _ _ rfl (fun i c d h3 h4=>by
 match i with
 | 0=>simp at h3 h4;subst h3;subst h4;exact .refl _
 | 1=>simp[LS]at h3 h4;subst h3;subst h4;exact .nil _ _
 | 2=>simp[LR]at h3 h4;subst h3;subst h4;exact .nil _ _
 | n+3=>simp at h3)
theorem le_tup4{a b c d a' b' c' d':V}(h1:Le a a')(h2:Le b b')(h3:Le c c')(h4:Le d d'):Le (.tup [a,b,c,d]) (.tup [a',b',c',d']):=.tup _ _ rfl (fun i x y hx hy=>by
 match i with
 | 0=>simp at hx hy;subst hx;subst hy;exact h1
 | 1=>simp at hx hy;subst hx;subst hy;exact h2
 | 2=>simp at hx hy;subst hx;subst hy;exact h3
 | 3=>simp at hx hy;subst hx;subst hy;exact h4
 | n+4=>simp at hx)
theorem u8_mod{c:Int}(h:0≤c∧c<256):IntKind.u8.wrap (c.tmod 20)=c.tmod 20∧IntKind.i64.wrap (c.tmod 20)=c.tmod 20∧IntKind.i64.wrap (1+c.tmod 20)=1+c.tmod 20:=by
 have a1:=sW 20 h.1;have a2:=sR c (show(0:Int)<20 by omega);refine⟨by rw[IntKind.wrap_u8];omega,wrap64 (by omega) (by omega),wrap64 (by omega) (by omega)⟩
theorem of_41(x:Rcp)(rs:List Rul)(ws:List Int)(f f2 f3:Bool)(h:C4Ok x rs ws):aL Tryz.prog 11 [cF f f2 f3 x rs ws] fun r=>r = .tup [aD false false (ofT x),LCn false (mH x rs),L1 false (wOf (ofT x).rows.length ws),.bool (pi x rs)]:=by
 have c1:=table03 x f h.a h.gap h.len;by_cases h6:x.rows.length≤6
 case neg =>
  have hT:ofT x=⟨rY,[],[]⟩:=by unfold ofT;rw[if_neg h6]
  have hB:pi x rs=false:=by unfold pi;rw[decide_eq_false h6];rfl
  have hrl:=h.rl;have c2:=rules37 0 rs f2 (by omega) (by omega) h.r;rw[if_neg h6]at c1;unfold mH;rw[hT,hB];simp only[td,pG,gF]at c1 ⊢;by_cases hall:rs.all ez=true
  ·rw[if_pos hall];rw[show rlV 0 rs = .tup [LCn false (rs.map (eW 0)),.bool (decide (rs.length≤4))] from by unfold rlV;rw[if_pos hall]]at c2;obtain⟨b4,hb4⟩:∃b4,b4=decide (rs.length≤4):=⟨_,rfl⟩;rw[←hb4]at c2;obtain⟨A,hA⟩:∃A,A=rs.map (eW 0):=⟨_,rfl⟩;rw[←hA]at c2 ⊢;refine qd (v:=.tup [.agg [.str rY,.nilS,.nilS],LCn false A,.nilS,.bool false]) ?_ (le_tup4 le_tb0 (.refl _) (.nil _ _) (.refl _)) (by simp);simp only[LCn]at c2 ⊢;refine sPx Tryz.func11 rfl rfl ?_;simp -dsimp[Tryz.f11,rO,cF];refine cPx (c1) (by simp) ?_;simp -dsimp[];refine cPx (c2) (by simp) ?_;simp -dsimp[];refine aG (W_loopM 55 0x7ffffff9049c00 (by simp[mB]<;>rfl) (σ:=Unit) (fun _=>True) (fun _=>0) (fun _=>[(11,.int .i64 0),(10,.nilS)]) (fun _=>[B.cells [.int .u8 x.a,.int .u8 x.gap,.lst 1 f (x.rows.map LU),.lst 10 f2 (rs.map bd),.lst 1 f3 (ws.map eH)],B.cells [.str rY,.nilS,.nilS],B.cells [.str rY,.nilS,.nilS]]) () trivial (by simp) (by simp) (by simp) ?_);rintro⟨⟩ _ N Q hN hQ;refine wx ?_;simp -dsimp[];refine hQ _ _ _ ?_;simp -dsimp[]
  ·rw[if_neg hall];rw[show rlV 0 rs = .tup [.nilS,.bool false] from by unfold rlV;rw[if_neg hall]]at c2;refine qd (v:=.tup [.agg [.str rY,.nilS,.nilS],.nilS,.nilS,.bool false]) ?_ (le_tup4 le_tb0 (.nil _ _) (.nil _ _) (.refl _)) (by simp);refine sPx Tryz.func11 rfl rfl ?_;simp -dsimp[Tryz.f11,rO,cF];refine cPx (c1) (by simp) ?_;simp -dsimp[];refine cPx (c2) (by simp) ?_;simp -dsimp[];refine aG (W_loopM 55 0x7ffffff9049c00 (by simp[mB]<;>rfl) (σ:=Unit) (fun _=>True) (fun _=>0) (fun _=>[(11,.int .i64 0),(10,.nilS)]) (fun _=>[B.cells [.int .u8 x.a,.int .u8 x.gap,.lst 1 f (x.rows.map LU),.lst 10 f2 (rs.map bd),.lst 1 f3 (ws.map eH)],B.cells [.str rY,.nilS,.nilS],B.cells [.str rY,.nilS,.nilS]]) () trivial (by simp) (by simp) (by simp) ?_);rintro⟨⟩ _ N Q hN hQ;refine wx ?_;simp -dsimp[];refine hQ _ _ _ ?_;simp -dsimp[]
 case pos =>
 have hT:ofT x=eV x:=by unfold ofT;rw[if_pos h6]
 rw[if_pos h6]at c1;have hxo:RcpOk x:=⟨h.a,h.gap,h6,h.len⟩;have hw:=(tbC (tbOf_ok hxo).2).wide;have hrl:=h.rl;have hrr:=kG x;have c2:=rules37 (eV x).attrs.length rs f2 hw (by omega) h.r
 have hB:pi x rs=(rs.all ez&&decide (rs.length≤4)):=by unfold pi;rw[decide_eq_true h6,re]
 unfold mH;rw[hT,hB];obtain⟨t,ht⟩:∃t,t=eV x:=⟨_,rfl⟩;rw[←ht]at c1 c2 hw hrr ⊢
 have htr:∀n,rbB n (tcB t false false):=fun n=>bS n t false false
 have htB:B.cells [.str t.name,.lst 1 false (t.attrs.map V.str),.lst 2 false (t.rows.map aI)]=tcB t false false:=rfl
 have hlen6:t.rows.length≤6:=by omega
 have hwk:=h.w
 obtain⟨LV1,B1,hlv,hrl2,hLe,hPu,hrbL⟩:∃(LV1:V) (B1:Bool),rlV t.attrs.length rs = .tup [LV1,.bool B1]∧B1=(rs.all ez&&decide (rs.length≤4))∧Le LV1 (LCn false (if rs.all ez=true then rs.map (eW t.attrs.length) else []))∧AM.Pure LV1∧(LV1 = .nilS∨∃A:List Cn,LV1 = .lst 18 false (A.map af)):=by
  by_cases hall:rs.all ez=true
  ·exact⟨LCn false (rs.map (eW t.attrs.length)),decide (rs.length≤4),by unfold rlV;rw[if_pos hall],by rw[hall];rfl,by rw[if_pos hall];exact .refl _,by simp,.inr ⟨_,rfl⟩⟩
  ·refine⟨.nilS,false,by unfold rlV;rw[if_neg hall],?_,by rw[if_neg hall];exact .nil _ _,.nilS,.inl rfl⟩;rw[Bool.eq_false_iff.2 hall];rfl
 rw[hlv]at c2;rw[←hrl2];refine qd (v:=.tup [aD false false t,LV1,L1 false (wOf t.rows.length ws),.bool B1]) ?_ (le_tup4 (.refl _) hLe (.refl _) (.refl _)) (by simp);simp only[gF,aD,LS,LR]at c1
 have hrb:∀(l:List Int),∀bl∈[B.cells [.int .u8 x.a,.int .u8 x.gap,.lst 1 f (x.rows.map LU),.lst 10 f2 (rs.map bd),.lst 1 f3 (ws.map eH)],B.cells [.str rY,.nilS,.nilS],tcB t false false,B.buf 2 1 (l.map aE) false],rbB 4 bl:=fun l bl hbl=>by
  simp only[rU,rS,or_false]at hbl
  rcases hbl with rfl | rfl | rfl | rfl
  ·intro c hc;simp only[rU,rS,or_false]at hc;rcases hc with rfl | rfl | rfl | rfl | rfl<;>simp[rb,rb1]
  ·intro c hc;simp only[rU,rS,or_false]at hc;rcases hc with rfl | rfl | rfl<;>simp[rb,rb1]
  ·exact htr _
  ·exact gW _ _ _ _
 rcases hrbL with rfl | ⟨A,rfl⟩
 case' inl =>
  refine sPx Tryz.func11 rfl rfl ?_;simp -dsimp[Tryz.f11,rO,cF];refine cPx (c1) (by simp) ?_;simp -dsimp[];refine cPx (c2) (by simp) ?_;simp -dsimp[htB]
 case' inr =>
  refine sPx Tryz.func11 rfl rfl ?_;simp -dsimp[Tryz.f11,rO,cF];refine cPx (c1) (by simp) ?_;simp -dsimp[];refine cPx c2 (by simp) ?_;simp -dsimp[htB]
 all_goals
  refine aG (bf 2 1 [10] (by simp) (W_loopM 55 0x7ffffff9049c00 (by simp[mB]<;>rfl) (σ:=Nat) (fun i=>i≤t.rows.length) (fun i=>t.rows.length-i) (fun i=>[(11,.int .i64 i),(10,.buf 3 0 (wOf i ws).length (wOf i ws).length)]) (fun i=>[B.cells [.int .u8 x.a,.int .u8 x.gap,.lst 1 f (x.rows.map LU),.lst 10 f2 (rs.map bd),.lst 1 f3 (ws.map eH)],B.cells [.str rY,.nilS,.nilS],tcB t false false,B.buf 2 1 ((wOf i ws).map aE) false]) 0 (by omega) (by simp[pG]) (by simp[pG]) (by simp) ?_));intro i hi N Q hN hQ;by_cases hw0:0<ws.length
  ·by_cases hib:i<t.rows.length
   ·have hs:=wOf_succ hw0 i;have hl:=wOf_len2 hw0 i;have hm:i % ws.length<ws.length:=uX i hw0
    have hg:ws.getD (i % ws.length) 0=ws[i % ws.length]:=by simp[tO,hm]
    have hmi:((i:Int).tmod ws.length)=((i % ws.length:Nat):Int):=rfl;have hc:=hwk _ (rQ hm);obtain⟨c,hce⟩:∃c,c=ws[i % ws.length]:=⟨_,rfl⟩;rw[hg,←hce]at hs;rw[←hce]at hc;obtain⟨m1,m2,m3⟩:=u8_mod hc;obtain⟨k,hk⟩:∃k,k=i % ws.length:=⟨_,rfl⟩
    have hce2:c=ws[k]'(by rw[hk];exact hm):=by subst hk;exact hce
    have hki:k≤i:=by rw[hk];exact Nat.mod_le _ _
    rw[←hk]at hm hmi;obtain⟨l,hle⟩:∃l,l=wOf i ws:=⟨_,rfl⟩;rw[←hle]at hs hl ⊢;refine wx ?_;simp -dsimp[hib,hw0,tcB,show(0:Int)<ws.length by omega];refine aG (aW tok mixed [14] [] [] (by kernel_rfl) fun C K hC hK=>?_);simp -implicitDefEqProofs [hib,hw0,tcB,eH,hmi,hm,hce2.symm,m1,m2,m3,hl,go i (by omega),ai i (by omega),ai k (by omega),show ¬(ws.length:Int)=0 by omega,show ¬ws.length=0 by omega];refine hK _ _ ?_;simp -dsimp[aH i (by omega)];refine hN (i+1) _ _ (by omega) (by omega) (by simp[hs,hl]) ⟨[],by simp[hs,aE,tcB]⟩ (by simp) (hrb _)
   ·obtain rfl:i=t.rows.length:=by omega
    refine cy 3 [10] rfl (by simp) ?_;refine wx ?_;simp -dsimp[hib,hw0,tcB];refine hQ _ _ _ ?_;simp -dsimp[tcB];simp[aD,LS,LR,L1,oT]
  ·have hws:ws=[]:=by
    match ws,hw0 with
    | [],_=>rfl
    | _::_,hq=>simp at hq
   subst hws;rw[oT];refine cy 3 [10] rfl (by simp) ?_;by_cases hib:i<t.rows.length
   ·refine wx ?_;simp -dsimp[hib,tcB];refine hQ _ _ _ ?_;simp -dsimp[tcB];simp[aD,LS,LR,L1,oT]
   ·refine wx ?_;simp -dsimp[hib,tcB];refine hQ _ _ _ ?_;simp -dsimp[tcB];simp[aD,LS,LR,L1,oT]
def blE(t:Tb)(cs:List Cn)(D:List Int):Int:=if aV t cs=0 then plE (aa t.rows) D else aV t cs
theorem plV_err(I D:List Int):∃p,AM.Pure p∧plV I D = .tup [p,.int .i64 (plE I D)]∧(p = .nilS∨∃l,p = .lst 1 false l):=by
 unfold plV;split
 ·rename_i h;rw[h];exact⟨_,Ln_pure _ _,rfl,.inr ⟨_,rfl⟩⟩
 ·exact⟨_,.nilS,rfl,.inl rfl⟩
theorem ln{t:Tb}{cs:List Cn}(h:BdOk t cs)(h0:aV t cs=0):t.rows.length≤8:=by
 obtain⟨_,h2,_⟩:=cG h0;have:=h.rows;omega
theorem built_u(t:Tb)(cs:List Cn)(D:List Int)(f g fc fd:Bool)(h:BdOk t cs)(hD:D.length≤1000000):aL Tryz.prog 70 [aD f g t,LCn fc cs,L1 fd D] fun r=>r = .tup [bdV t cs,.int .i64 (blE t cs D)]:=by
 have cb:=build_u t cs f g fc h;have hpb:=bdV_pure t cs;by_cases h0:aV t cs=0
 ·have he:blE t cs D=plE (aa t.rows) D:=by unfold blE;rw[if_pos h0]
  have cp:=places_u t D f g fd (tbC (cG h0).1) (by have:=ln h h0;omega) hD;obtain⟨p,hp,hpv,hps⟩:=plV_err (aa t.rows) D;rw[hpv]at cp;rw[he];rw[h0,jE h0]at cb;rw[jE h0];obtain⟨e,hee⟩:∃e,e=plE (aa t.rows) D:=⟨_,rfl⟩;rw[←hee]at cp ⊢;simp only[aD,LS,LR,LCn,iK,L1,LL]at cb cp ⊢
  rcases hps with rfl | ⟨l,rfl⟩
  ·refine sPx Tryz.func70 rfl rfl ?_;simp -dsimp[Tryz.f70,rO,aD,LS,LR,LCn,L1];refine cPx (cb) (by simp) ?_;simp -dsimp[];refine cPx (cp) (by simp) ?_;simp -dsimp[]
  ·refine sPx Tryz.func70 rfl rfl ?_;simp -dsimp[Tryz.f70,rO,aD,LS,LR,LCn,L1];refine cPx (cb) (by simp) ?_;simp -dsimp[]
   refine(aK cp (fun a ha=>by
    simp only[rU,rS,or_false]at ha
    rcases ha with rfl | rfl<;>simp)).mono ?_
   rintro r H' ⟨rfl,rfl⟩;simp -dsimp[]
 ·have he:blE t cs D=aV t cs:=by unfold blE;rw[if_neg h0]
  rw[he];rw[qt h0]at cb ⊢;obtain⟨e,hee⟩:∃e,e=aV t cs:=⟨_,rfl⟩;rw[←hee]at cb h0 ⊢;simp only[aD,LS,LR,LCn]at cb;refine sPx Tryz.func70 rfl rfl ?_;simp -dsimp[Tryz.f70,rO,aD,LS,LR,LCn,L1];refine cPx (cb) (by simp) ?_;simp -dsimp[h0]
theorem bl_ok{t:Tb}{cs:List Cn}{D:List Int}(h:blE t cs D=0):aV t cs=0∧plE (aa t.rows) D=0:=by
 unfold blE at h;split at h
 ·rename_i h0;exact⟨h0,h⟩
 ·rename_i h0;exact absurd h h0
def rpB(t:Tb)(cs:List Cn)(D:List Int):Bool:=if blE t cs D=0 then eA (ak (bQ t cs)) D else false
def rmB(t:Tb)(cs:List Cn)(D:List Int):Bool:=if blE t cs D=0 then minB (ak (bQ t cs)) D else false
theorem repairs_u(t:Tb)(cs:List Cn)(D:List Int)(f g fc fd:Bool)(h:BdOk t cs)(hD:D.length≤1000000):aL Tryz.prog 30 [aD f g t,LCn fc cs,L1 fd D] fun r=>r = .tup [.bool (rpB t cs D),.int .i64 (blE t cs D)]:=by
 have cb:=built_u t cs D f g fc fd h hD;unfold rpB;by_cases hz:blE t cs D=0
 ·obtain⟨h0,_⟩:=bl_ok hz;obtain⟨hsm,_,_⟩:=cA h h0;rw[hz,jE h0]at cb;rw[if_pos hz,hz];have ch:=hits_u (aa t.rows) (ak (bQ t cs)) D false false fd hsm hD;obtain⟨b,hb⟩:∃b,b=eA (ak (bQ t cs)) D:=⟨_,rfl⟩;rw[←hb]at ch ⊢;simp only[aD,LS,LR,LCn,iK,L1,LL]at cb ch;refine sPx Tryz.func30 rfl rfl ?_;simp -dsimp[Tryz.f30,rO,aD,LS,LR,LCn,L1];refine cPx (cb) (by simp) ?_;simp -dsimp[];refine cPx (ch) (by simp) ?_;simp -dsimp[]
 ·rw[if_neg hz];obtain⟨e,hee⟩:∃e,e=blE t cs D:=⟨_,rfl⟩;rw[←hee]at cb hz ⊢;by_cases h0:aV t cs=0
  ·rw[jE h0]at cb;simp only[aD,LS,LR,LCn,iK,L1,LL]at cb;refine sPx Tryz.func30 rfl rfl ?_;simp -dsimp[Tryz.f30,rO,aD,LS,LR,LCn,L1];refine cPx (cb) (by simp) ?_;simp -dsimp[hz]
  ·rw[qt h0]at cb;simp only[aD,LS,LR,LCn,iK,L1,LL]at cb;refine sPx Tryz.func30 rfl rfl ?_;simp -dsimp[Tryz.f30,rO,aD,LS,LR,LCn,L1];refine cPx (cb) (by simp) ?_;simp -dsimp[hz]
theorem minB_any(E:List (List Int))(D:List Int):minB E D=(eA E D&&!(D.any fun a=>eA E (gp D a))):=by
 unfold minB;congr 1;rw[List.all_eq_not_any_not];simp
theorem butL_len(D:List Int)(a:Int):(gp D a).length≤D.length:=by unfold gp;exact rz _ _
end
end Go.Proofs.YtjogkbekekdkjaaGreatDoor
