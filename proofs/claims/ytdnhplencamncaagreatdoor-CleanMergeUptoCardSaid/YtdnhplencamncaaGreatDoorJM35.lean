/- JM35: own texts of this seat, joined and shortened by pack4.py: Bk, UB, ST4, ST5, SK, UL, ST6a. -/
import Derived.Test.YtdnhplencamncaaGreatDoorJM17
import Derived.Test.YtdnhplencamncaaGreatDoorJM26
import Derived.Test.YtdnhplencamncaaGreatDoorJM34
import Derived.RangeFuncBox
import Derived.WalkKit
import Derived.OwnWalkIn
import Derived.TacticsInMore
import Derived.LoopNIn
import Derived.LoopIn
import Derived.Deep.MidRow
set_option linter.unusedVariables false
set_option linter.unusedSimpArgs false
set_option maxRecDepth 100000
set_option maxHeartbeats 64000000
open ByteArray renaming empty→oF
open List renaming replicate→oE,mem_of_getElem?→oH,getElem_mem→oI,range→oM,take_succ_eq_append_getElem→oN,not_mem_nil→oO,getElem?_set_ne→oQ,mem_cons→oR,getElem?_set_self→oX,take_length→oY,length_cons→og,append_assoc→oh,set_cons_zero→oz,take_of_length_le→pA,set_cons_succ→pG,nil_append→pH,getElem?_cons_succ→pL,mem_singleton→pM,cons_append→pg,length_nil→qD,take→qi,size_toArray→rP
open Nat renaming le_refl→oJ,zero_le→qV
namespace Go.Proofs.YtdnhplencamncaaGreatDoor
section
open Go Go.AM Go.RowKit
attribute [local go_sem] Oper.semAt_some
theorem back_nil(Bs b:Nat)(us:Nat→Nat→Value)(A:Option Addr)(cap:Nat)(w:World)(hB:Bs<w.heap.size)(hc:w.cell? ⟨Bs,0,none⟩=some (.slice A 0 cap)):
  SeqIx Fence.wide 19 Tryz.prog 197 #[.pointer (some ⟨Bs,0,none⟩)] (fun k=>#[.int .i64 ((0-1-k:Nat):Int),.agg ((oM 11).map (us (0-1-k))).toArray]) (KpS fun x=>x=Bs∨x=b) 0 w:=by
 intro l J W hW hJ hY h0;have hBs:W.cell? ⟨Bs,0,none⟩=some (.slice A 0 cap):=(hW.cell (p:=⟨Bs,0,none⟩) hB).trans hc;clear hY hJ;refine callsIn_of_wp Tryz.func197 rfl trivial ?_ rfl;simp only[Tryz.ntmps197,rP,og,qD,Nat.reduceAdd,Nat.reduceSub,Array.replicate_succ,Array.replicate_zero,List.push_toArray,List.append_toArray,pH,pg]
 gi_wp2
 gi_loopw [3] (fun i wr=>i = .int .i64 (-1)∧J 0 wr) (fun _ _=>0)
 case atStart=>exact⟨rfl,h0⟩
 case round =>
  obtain⟨rfl,hJs⟩:=hrel
  gi_wp2
  go_end0
  exact⟨⟨_,rfl⟩,hJs⟩
attribute [local go_sem] Oper.semAt_some
theorem back_ix(N Bs b off cap:Nat)(us:Nat→Nat→Value)(w:World)(hN:N≤1000000)(hB:Bs<w.heap.size)(hb:b<w.heap.size)(hc:w.cell? ⟨Bs,0,none⟩=some (.slice (some ⟨b,off,none⟩) N cap))
  (hce:∀i,i<N→∀j,j<11→w.cell? ⟨b,off+i*11+j,none⟩=some (us i j)):
  SeqIx Fence.wide 19 Tryz.prog 197 #[.pointer (some ⟨Bs,0,none⟩)] (fun k=>#[.int .i64 ((N-1-k:Nat):Int),.agg ((oM 11).map (us (N-1-k))).toArray]) (KpS fun x=>x=Bs∨x=b) N w:=by
 intro l J W hW hJ hY h0;have hBs:W.cell? ⟨Bs,0,none⟩=some (.slice (some ⟨b,off,none⟩) N cap):=(hW.cell (p:=⟨Bs,0,none⟩) hB).trans hc
 have hcs:∀i,i<N→∀j,j<11→W.cell? ⟨b,off+i*11+j,none⟩=some (us i j):=fun i hi j hj=>(hW.cell (p:=⟨b,off+i*11+j,none⟩) hb).trans (hce i hi j hj)
 refine callsIn_of_wp Tryz.func197 rfl trivial ?_ rfl;simp only[Tryz.ntmps197,rP,og,qD,Nat.reduceAdd,Nat.reduceSub,Array.replicate_succ,Array.replicate_zero,List.push_toArray,List.append_toArray,pH,pg]
 gi_wp2
 gi_loopw [3] (fun i wr=>∃k:Nat,k≤N∧i = .int .i64 ((N:Int)-1-k)∧J k wr∧KpS (fun x=>x=Bs∨x=b) W wr) (fun i _=>(intOf i+1).toNat)
 case atStart=>exact⟨0,qV _,by simp,h0,fun x _=>rfl⟩
 case round =>
  obtain⟨k,hk,rfl,hJs,hkp⟩:=hrel
  have hBr:wr.cell? ⟨Bs,0,none⟩=some (.slice (some ⟨b,off,none⟩) N cap):=by rw[World.cell?_of_block (hkp Bs (.inl rfl))];exact hBs
  by_cases hlt:k<N
  ·obtain⟨fn,tmps,assign,body,hy,hR⟩:=hY k wr hJs hlt;obtain⟨q,hq⟩:∃q:Nat,(N:Int)-1-k=(q:Int)∧q<N∧N-1-k=q:=⟨N-1-k,by omega,by omega,rfl⟩;rw[hq.1];rw[hq.2.2]at hy
   have hat:∀j,j<11→wr.cell? ⟨b,off+q*11+j,none⟩=some (us q j):=fun j hj=>by
    rw[World.cell?_of_block (hkp b (.inr rfl))];exact hcs q hq.2.1 j hj
   have d0:wr.cell? ⟨b,off+q*11,none⟩=some (us q 0):=hat 0 (by omega);have d1:wr.cell? ⟨b,off+q*11+1,none⟩=some (us q 1):=hat 1 (by omega);have d2:wr.cell? ⟨b,off+q*11+2,none⟩=some (us q 2):=hat 2 (by omega);have d3:wr.cell? ⟨b,off+q*11+3,none⟩=some (us q 3):=hat 3 (by omega);have d4:wr.cell? ⟨b,off+q*11+4,none⟩=some (us q 4):=hat 4 (by omega);have d5:wr.cell? ⟨b,off+q*11+5,none⟩=some (us q 5):=hat 5 (by omega);have d6:wr.cell? ⟨b,off+q*11+6,none⟩=some (us q 6):=hat 6 (by omega);have d7:wr.cell? ⟨b,off+q*11+7,none⟩=some (us q 7):=hat 7 (by omega);have d8:wr.cell? ⟨b,off+q*11+8,none⟩=some (us q 8):=hat 8 (by omega);have d9:wr.cell? ⟨b,off+q*11+9,none⟩=some (us q 9):=hat 9 (by omega);have d10:wr.cell? ⟨b,off+q*11+10,none⟩=some (us q 10):=hat 10 (by omega);have h11:(oM 11).map (us q)=[us q 0,us q 1,us q 2,us q 3,us q 4,us q 5,us q 6,us q 7,us q 8,us q 9,us q 10]:=rfl;rw[h11]at hy;clear hat;clear hcs hce hBs hW hc
   gi_wp2
   refine hR.mono ?_;rintro e W3 ⟨rfl,hJ3,hk3⟩
   gi_wp2
   go_roundw
   case rel=>exact⟨k+1,by omega,by first | (simp;done) | (simp;omega),hJ3,fun x hx=>(hk3 x hx).trans (hkp x hx)⟩
   case measure=>first | (simp[intOf];done) | (simp[intOf];omega)
  ·obtain rfl:k=N:=by omega
   gi_wp2
   go_end0
   exact⟨⟨_,rfl⟩,hJs⟩
end
end Go.Proofs.YtdnhplencamncaaGreatDoor
namespace Go.Proofs.YtdnhplencamncaaGreatDoor
section
open Go Go.AM
theorem is_true(t0 u:Tb)(xs:List Tx)(js:List Ch)(f1 g1 f2 g2 gg:Bool)(L ud nw:V)(o:Bool)(hj:jrL xs=fT t0::js)(hx:xs.length≤1000000)(hl:(jrL xs).length≤1000000)(hc:∀x∈xs,∀c∈x.l,ChL c)(hu:TbL u)
  (hz0:∀r∈t0.rows,∀v∈r.vals,v.s.size≤maxLen) (hz:∀r∈u.rows,∀v∈r.vals,v.s.size≤maxLen) (hL:AM.Pure L) (p:StP (LTb gg [u]) ud nw (xs.map aY))
  (hs:aJ Tryz.prog 26 [.lst 11 false (js.map (aK false false)),L] fun r=>r = .bool true):
  aU Tryz.prog 10 [.ptr 0 0,aD f1 g1 t0,aD f2 g2 u,L] [stB (LTb gg [u]) (.buf 1 0 xs.length xs.length) ud o nw,dnS (xs.map aY)] fun r H'=>r = .bool true∧H'=[stB (LTb gg [u]) (.buf 1 0 xs.length xs.length) ud o nw,dnS (xs.map aY)]:=by
 refine gW ?_ (by simp) (by simp) p.rb
 have h0:TbL t0:=by
  have hm:fT t0∈jrL xs:=by rw[hj];simp
  obtain⟨x,hx1,hx2⟩:=List.mem_flatMap.1 hm;exact(hc x hx1 _ hx2).t
 have c1:=db_s [u] gg xs.length (xs.map aY) ud nw o (by simp) (fun t ht=>by simp at ht;subst ht;exact hu) p;have c2:=journal_s (LTb gg [u]) xs ud nw o hx hl hc p;have c3:=iO u u false false f2 g2 hu.a hu.r (fun r hr=>⟨hu.v r hr,hz r hr⟩);have c4:=iO t0 t0 false false f1 g1 h0.a h0.r (fun r hr=>⟨h0.v r hr,hz0 r hr⟩);rw[fR]at c3 c4;rw[hj]at c2
 have d1:=fun G0 G1=>mu (H:=[stB (LTb gg [u]) (.buf 1 0 xs.length xs.length) ud o nw,dnS (xs.map aY),G0,G1]) (k:=0) (L:=1) c1 p (by simp) (by simp[LTb]) (by decide) rfl rfl
 have d2:=fun G0 G1 G2=>mu (H:=[stB (LTb gg [u]) (.buf 1 0 xs.length xs.length) ud o nw,dnS (xs.map aY),G0,G1,G2]) (k:=0) (L:=1) c2 p (by simp) (by simp) (by decide) rfl rfl
 obtain⟨S,hS⟩:∃S,S=stB (LTb gg [u]) (.buf 1 0 xs.length xs.length) ud o nw:=⟨_,rfl⟩;obtain⟨D,hD⟩:∃D,D=dnS (xs.map aY):=⟨_,rfl⟩;simp only[←hS,←hD]at d1 d2 ⊢;simp only[aD,LS,LR]at c3 c4;refine aE tok Tryz.func10 rfl rfl ?_;refine wx ?_;simp -dsimp[Tryz.f10,oE,aD,LS,LR];refine wcm (d1 _ _) ?_;rintro r H' ⟨rfl,rfl⟩;simp -dsimp[LTb,aD,LS,LR];refine wcm (d2 _ _ _) ?_;rintro r H' ⟨rfl,rfl⟩;simp -dsimp[LTb,aD,LS,LR];refine .inr ⟨aS (by kernel_rfl),?_⟩;refine az _ (aT (c3) (by simp)) ?_;simp -dsimp[aK,chC,fT];refine az _ (aT (c4) (by simp)) ?_;simp -dsimp[aK,chC,fT];rw[show qi js.length (js.map (aK false false))=js.map (aK false false) from pA (by simp)];refine az _ (aT hs (by simp;exact hL)) ?_;simp -dsimp[]
theorem enters_of{P:Program}{f:FuncId}{fn:Func}(hf:P.funcs[f]?=some fn)(hb:fn.body.isNone=false)(hn:(fn.name == "runtime.NumGoroutine")=false)(args:Array Value)(w:World):(callFunc f args).run P w = .ok (.enter f args) w:=by
 have h1:¬fn.name = "runtime.NumGoroutine":=by simpa using hn
 have h2:¬fn.body=none:=by intro h;rw[h]at hb;cases hb
 simp[callFunc,go_sem,hf,h1,h2]
theorem mf{H:List B}(h:∀b∈H,∀kk es,b≠.map kk es):NoMap H:=fun k kk es hk=>h _ (oH hk) kk es rfl
theorem back_mk(H:List B)(f:Bool)(xs:List V):aU Tryz.prog 124 [.lst 11 f xs] H fun r H'=>r = .fn 197 [.ptr H.length 0]∧H'=H++[.cells [.lst 11 f xs]]:=by
 refine aE tok Tryz.func124 rfl rfl ?_;refine wx ?_;simp -dsimp[Tryz.f124,oE]
theorem lB(H:List B)(k:Nat)(f:Bool)(hH:∀bl∈H,rbB H.length bl)(hnm:∀b∈H,∀kk es,b≠.map kk es)(hk:k<H.length):aU Tryz.prog 68 [.ptr k 0,.lst 11 f []] H fun r H'=>r = .tup []∧H'=H++[.cells [.ptr k 0]]:=by
 have hb1:=back_mk (H++[.cells [.ptr k 0]]) f []
 have hln:(H++[B.cells [.ptr k 0]]).length=H.length+1:=by simp
 refine nf tok (f:=68) (gf:=197) (z:=11) Tryz.func68 rfl rfl rfl (by decide) (enters_of Tryz.func197 rfl rfl)
  ((((([V.ptr k 0,V.lst 11 f []]++oE 42 (V.tup [])).set 2 (V.ptr H.length 0)).set 6 (V.lst 11 f [])).set 7 (V.fn 197 [V.ptr (H.length+1) 0])))
  ((((([V.ptr k 0,V.lst 11 f []]++oE 42 (V.tup [])).set 2 (V.ptr H.length 0)).set 6 (V.lst 11 f [])).set 7 V.undef))
  ?less (fun _=>H++[.cells [.ptr k 0]]) (fun _=>[]) (fun _=>[]) [] f 0 rfl ?head ?hg ?hl ?rb0 (fun _ _=>?rb) (fun _ _=>rfl) (fun _ _=>mf ?nm) (fun k hk=>absurd hk (by omega)) (by simp) ?it (fun k hk=>absurd hk (by omega)) (fun k hk=>absurd hk (by omega))
 case less=>simp[oE]
 case head =>
  refine wx ?_;simp -dsimp[Tryz.f68,oE];refine wx ?_;simp -dsimp;refine wcm hb1 ?_;rintro r H' ⟨rfl,rfl⟩;simp -dsimp
 case hg=>simp[oE]
 case hl=>simp
 case rb0 =>
  simp[oE];omega
 case rb =>
  intro bl hbl
  rcases List.mem_append.1 hbl with h | h
  ·exact jZ (by simp) (hH bl h)
  ·simp only[pM]at h;subst h;intro c hc;simp only[pM]at hc;subst hc;show k<_;simp;omega
 case nm =>
  intro b hb kk es
  rcases List.mem_append.1 hb with h | h
  ·exact hnm b h kk es
  ·simp only[pM]at h;subst h;simp
 case it =>
  intro Bs b off cap us w h1 h2 h3 _ _
  rcases h3 with h3 | ⟨_,A,h3⟩
  ·rw[if_pos rfl]at h3;exact back_nil Bs b us none cap w h1 h3
  ·exact back_nil Bs b us A cap w h1 h3
theorem revert_nil(H:List B)(k:Nat)(hH:∀bl∈H,rbB H.length bl)(hnm:∀b∈H,∀kk es,b≠.map kk es)(hk:k<H.length):aU Tryz.prog 68 [.ptr k 0,.nilS] H fun r H'=>r = .tup []∧H'=H++[.cells [.ptr k 0]] :=
 jw (lB H k false hH hnm hk) rfl (fun i a b ha hb=>by
  match i with
  | 0=>simp at ha hb;subst ha;subst hb;exact .refl _
  | 1=>simp at ha hb;subst ha;subst hb;exact .nil _ _
  | i+2=>simp at ha)
theorem rollback0(db ud:V)(m:Nat)(dl:List V)(p:StP db ud .nilS dl):aU Tryz.prog 41 [.ptr 0 0] [stB db (.buf 1 0 m m) ud true .nilS,dnS dl] fun r H'=>r = .int .i64 0∧H'=[stB db (.buf 1 0 m m) ud false .nilS,dnS dl]:=by
 refine gW ?_ (by simp) (by simp) p.rb;have c1:=end1 db (.buf 1 0 m m) ud .nilS (dnS dl);have c2:=revert_nil [stB db (.buf 1 0 m m) ud false .nilS,dnS dl] 0 p.rb (by simp[stB,dnS]) (by simp);obtain⟨D,hD⟩:∃D,D=dnS dl:=⟨_,rfl⟩;rw[←hD]at c1 c2 ⊢;simp only[stB]at c1 c2 ⊢;refine aE tok Tryz.func41 rfl rfl ?_;refine wx ?_;simp -dsimp[Tryz.f41,oE];refine wcm c1 ?_;rintro r H' ⟨rfl,rfl⟩;simp -dsimp[];refine wcm c2 ?_;rintro r H' ⟨rfl,rfl⟩;simp -dsimp[]
section
theorem cut1p{P:Program}{f:FuncId}{args:List V}{H Hf:List B}{r0:V}(h:aU P f args H fun r H'=>r=r0∧∃G,H'=Hf++G)(hl:H.length≤Hf.length)(hp:AM.Pure r0)(hb:∀bl∈Hf,rbB Hf.length bl):aU P f args H fun r H'=>r=r0∧H'=Hf:=by
 refine⟨h.1,fun s vals h1 h2 h3 h4=>(h.2 s vals h1 h2 h3 h4).mono fun e w' ⟨u,s',r,a,b,c,d,e1,k1,G,k3⟩=>?_⟩;subst k1;exact⟨u,s'.cut Hf,r,a,b,fS c k3 hb,ej c k3 (Step.refl _) s d (by rw[h1.1];exact hl),Rel.pure_ e1 hp (fun b hb=>⟨cU k3 hb,rfl⟩),rfl,rfl⟩
def zT0:V:=.agg [.str oF,.nilS,.nilS]
def z70:V:=.agg [.nilS,.str oF,.nilS,.nilS,.nilS,.nilS]
section
variable {nm:ByteArray} {db ud:V} {m:Nat} {o:Bool} {dl:List V} {e:Int}
end
end
theorem cbeg_ok(t:Tb)(ud:V)(m:Nat)(dl:List V)(ht:TbL t)(p:StP (LTb false [t]) ud .nilS dl):aU Tryz.prog 18 [.ptr 0 0,.str t.name] [stB (LTb false [t]) (.buf 1 0 m m) ud false .nilS,dnS dl] fun r H'=>r = .tup [aD false false t,.int .i64 0]∧H'=[stB (LTb false [t]) (.buf 1 0 m m) ud true .nilS,dnS dl]:=by
 refine cut1p ?_ (by simp) (by simp) p.rb
 have c1:=fun G=>gm (H:=[stB (LTb false [t]) (.buf 1 0 m m) ud false .nilS,dnS dl,G]) (k:=0) (L:=1) (begin0 (LTb false [t]) (.buf 1 0 m m) ud .nilS (dnS dl)) p p (by simp) (by simp) (by decide) rfl rfl
 have c2:=fun G=>mu (H:=[stB (LTb false [t]) (.buf 1 0 m m) ud true .nilS,dnS dl,G]) (k:=0) (L:=1) (db_s [t] false m dl ud .nilS true (by simp) (fun u hu=>by simp at hu;subst hu;exact ht) p) p (by simp) (by simp[LTb]) (by decide) rfl rfl
 obtain⟨S,hS⟩:∃S,S=stB (LTb false [t]) (.buf 1 0 m m) ud false .nilS:=⟨_,rfl⟩;obtain⟨S1,hS1⟩:∃S,S=stB (LTb false [t]) (.buf 1 0 m m) ud true .nilS:=⟨_,rfl⟩;obtain⟨D,hD⟩:∃D,D=dnS dl:=⟨_,rfl⟩
 have hrb1:∀n,2≤n→rbB n S1:=fun n hn=>jZ hn (by rw[hS1];exact p.rb (m:=m) (o:=true) _ (by simp))
 have hrbD:∀n,2≤n→rbB n D:=fun n hn=>jZ hn (by rw[hD];exact p.rb (m:=m) (o:=true) _ (by simp))
 simp only[←hS,←hS1,←hD]at c1 c2 ⊢;simp only[oz,pG]at c1;refine aE tok Tryz.func18 rfl rfl ?_;refine wx ?_;simp -dsimp[Tryz.f18,oE,zT0];refine wcm (c1 _) ?_;rintro r H' ⟨rfl,rfl⟩;simp -dsimp[];refine wcm (c2 _) ?_;rintro r H' ⟨rfl,rfl⟩;simp -dsimp[LTb];refine aI (W_loopM 29 0x1ff80120 (by simp[mB]<;>rfl) (σ:=Unit) (fun _=>True) (fun _=>0) (fun _=>[(19,.int .i64 0)]) (fun _=>[S1,D,B.cells [.str oF,.nilS,.nilS]]) () trivial (by simp) rfl (by simp) ?_);rintro⟨⟩ _ N Q hN hQ;refine wx ?_;simp -dsimp[aD,LS,LR];refine hQ _ _ _ ?_;simp -dsimp[]
 all_goals first | rfl | exact⟨rfl,rfl⟩ | simp[aD,LS,LR]
def g1(k:Nat)(_:Nat):Nat:=k
theorem lift1{P:Program}{f:FuncId}{args0 args:List V}{A0 B0 C0 D0:B}{r0:V}{H:List B}{k:Nat}(h:aU P f args0 [A0] fun r H'=>r=r0∧H'=[C0])
  (h0:H[k]?=some B0) (R0:RenB (g1 k) 1 A0 B0) (S0:RenB (g1 k) 1 C0 D0)
  (hal:args0.length=args.length) (ha:∀(i:Nat) a b,args0[i]?=some a→args[i]?=some b→Ren (g1 k) 1 a b) (hr:AM.Pure r0):aU P f args H fun r H'=>r=r0∧H'=H.set k D0:=by
 have hk:=aB h0;refine eT 1 1 (g1 k) h rfl rfl (oJ _) (fun i j hi hj e=>by omega) (fun i hi=>hk) (fun i h1 h2=>absurd h1 (by omega)) (fun i b hb=>?_) (fun i b hb=>?_) (by simp) (fun j hj hno=>?_) hal ha hr
 ·match i with
  | 0=>simp at hb;subst hb;exact⟨_,h0,R0⟩
  | i+1=>simp at hb
 ·match i with
  | 0=>simp at hb;subst hb;exact⟨D0,by show(H.set k D0)[k]?=_;rw[oX hk],S0⟩
  | i+1=>simp at hb
 ·have n0:k≠j:=hno 0 (by omega);rw[oQ n0]
structure StQ (db dn ud:V):Prop where
 ydb:AM.Pure db
 ydn:AM.Pure dn
 yud:AM.Pure ud
 odb:db.one=true
 odn:dn.one=true
 oud:ud.one=true
theorem StQ.rbn{db dn ud:V}(h:StQ db dn ud){o:Bool}(n:Nat):rbB n (stB db dn ud o .nilS):=fun c hc=>by
 simp only[oR,oO,or_false]at hc
 rcases hc with rfl | rfl | rfl | rfl | rfl
 ·exact bJ h.ydb h.odb
 ·exact bJ h.ydn h.odn
 ·exact bJ h.yud h.oud
 ·simp[rb,rb1]
 ·simp[rb,rb1]
theorem StQ.rb1{db dn ud:V}(h:StQ db dn ud){o:Bool}{n:Nat} : ∀bl∈[stB db dn ud o .nilS],rbB n bl:=fun bl hbl=>by
 rw[List.mem_singleton.1 hbl];exact h.rbn n
theorem liftL{P:Program}{f:FuncId}{ar:List V}{db dn ud db' dn' ud' r0:V}{o o':Bool}{H:List B}{k:Nat}
  (h:aU P f (.ptr 0 0::ar) [stB db dn ud o .nilS] fun r H'=>r=r0∧H'=[stB db' dn' ud' o' .nilS])
  (p:StQ db dn ud) (p':StQ db' dn' ud') (has:∀a∈ar,AM.Pure a) (hr:AM.Pure r0) (h0:H[k]?=some (stB db dn ud o .nilS)):
  aU P f (.ptr k 0::ar) H fun r H'=>r=r0∧H'=H.set k (stB db' dn' ud' o' .nilS):=by
 refine lift1 h h0 (ld p.ydb p.ydn p.yud (by simp) p.odb p.odn p.oud rfl) (ld p'.ydb p'.ydn p'.yud (by simp) p'.odb p'.odn p'.oud rfl) rfl (fun i a b ha hb=>?_) hr
 cases i with
 | zero =>
  simp at ha hb;subst ha;subst hb;exact .ptr 0 0 (by omega)
 | succ i =>
  simp only[pL]at ha hb;rw[ha]at hb;cases hb;exact .pure _ (has _ (oH ha))
theorem mv{P:Program}{f:FuncId}{ar:List V}{db dn ud r0:V}{o:Bool}{H:List B}{k:Nat}
  (h:aU P f (.ptr 0 0::ar) [stB db dn ud o .nilS] fun r H'=>r=r0∧H'=[stB db dn ud o .nilS])
  (p:StQ db dn ud) (has:∀a∈ar,AM.Pure a) (hr:AM.Pure r0) (h0:H[k]?=some (stB db dn ud o .nilS)):
  aU P f (.ptr k 0::ar) H fun r H'=>r=r0∧H'=H :=
 (liftL h p p has hr h0).mono fun r H' ⟨e1,e2⟩=>⟨e1,by rw[e2,kR h0]⟩
theorem db_l(ts:List Tb)(g:Bool)(dn ud:V)(o:Bool)(hl:ts.length≤1000000)(ht:∀t∈ts,TbL t)(p:StQ (LTb g ts) dn ud):
  aU Tryz.prog 24 [.ptr 0 0] [stB (LTb g ts) dn ud o .nilS] fun r H'=>r = .agg [LTb false ts]∧H'=[stB (LTb g ts) dn ud o .nilS]:=by
 refine gW ?_ (by simp) (by simp[LTb]) p.rb1;obtain⟨S,hS⟩:∃S,S=stB (LTb g ts) dn ud o .nilS:=⟨_,rfl⟩;have hSe:S=B.cells [.lst 3 g (ts.map (aD false false)),dn,ud,.bool o,.nilS]:=hS
 have hrbS:∀n,rbB n S:=fun n=>by rw[hS];exact p.rbn n
 rw[←hS];refine aE tok Tryz.func24 rfl rfl ?_;refine wx ?_;simp -dsimp[Tryz.f24,oE,hSe];refine aI (dL 32 3 [] 2 [0] rfl (cD _ _) (by simp) (W_loopM 24 0xfff020 (by simp[mB]<;>rfl) (σ:=Nat) (fun i=>i≤ts.length) (fun i=>ts.length-i) (fun i=>[(12,.int .i64 i)]) (fun i=>[S,B.cells [.nilS],B.cells [.buf 3 0 i i],B.buf 32 3 ((ts.take i).map (aD false false)) false]) 0 (by omega) (by simp) (by simp[hSe]) (by simp) ?_));intro i hi N Q hN hQ
 have hli:(ts.take i).length=i:=by simp;omega
 by_cases hb:i<ts.length
 ·have hst:ts.take (i+1)=ts.take i++[ts[i]]:=oN hb;have hh:=ht _ (oI hb);obtain⟨t,hte⟩:∃t,t=ts[i]:=⟨_,rfl⟩;rw[←hte]at hst hh;have hc:=fW t false false hh.a hh.r hh.v;simp only[aD,LS,LR]at hc;obtain⟨l,hl2⟩:∃l,l=ts.take i:=⟨_,rfl⟩;rw[←hl2]at hst hli ⊢;refine wx ?_;simp -dsimp[hb,hte.symm,aD,LS,LR];refine aI (aX tok mixed [5,7] [] [(aD false false t,[])] (by kernel_rfl) fun C K hC hK=>?_);simp -implicitDefEqProofs [hb,aD,LS,LR,hli,cap64c i (by omega)];refine⟨hC _ _ _ _ (aT hc (by simp)),hK _ _ ?_⟩;simp -dsimp[aP i (by omega)];refine hN (i+1) _ _ (by omega) (by omega) (by simp) ⟨[B.cells [.str t.name,.lst 1 false (t.attrs.map V.str),.lst 2 false (t.rows.map aC)]],by simp[hst,aD,LS,LR]⟩ (by simp) ?_;intro bl hbl;simp only[oR,oO,or_false]at hbl
  rcases hbl with rfl | rfl | rfl | rfl
  ·exact hrbS _
  ·simp
  ·simp
  ·exact tbs_rb _ _ _ _
 ·obtain rfl:i=ts.length:=by omega
  rw[oY];refine eG 3 [] 2 [0] rfl rfl (by simp) (by simp) ?_;refine wx ?_;simp -dsimp[hb];refine hQ _ _ _ ?_;simp -dsimp[];rfl
theorem journal_l(db:V)(fx:Bool)(xs:List Tx)(ud:V)(o:Bool)(hx:xs.length≤1000000)(hl:(jrL xs).length≤1000000)(hc:∀x∈xs,∀c∈x.l,ChL c)(p:StQ db (.lst 1 fx (xs.map aY)) ud):
  aU Tryz.prog 25 [.ptr 0 0] [stB db (.lst 1 fx (xs.map aY)) ud o .nilS] fun r H'=>r = .lst 11 false ((jrL xs).map (aK false false))∧H'=[stB db (.lst 1 fx (xs.map aY)) ud o .nilS]:=by
 refine gW ?_ (by simp) (by simp) p.rb1;obtain⟨S,hS⟩:∃S,S=stB db (.lst 1 fx (xs.map aY)) ud o .nilS:=⟨_,rfl⟩;have hSe:S=B.cells [db,.lst 1 fx (xs.map aY),ud,.bool o,.nilS]:=hS;rw[←hS]
 have hrbS:∀n,rbB n S:=fun n=>by rw[hS];exact p.rbn n
 have hrb:∀(l:List Ch),∀bl∈[S,B.buf 81 11 (l.map (aK false false)) false],rbB 2 bl:=fun l bl hbl=>by
  simp only[oR,oO,or_false]at hbl
  rcases hbl with rfl | rfl
  ·exact hrbS _
  ·exact chs_rb _ _ _ _
 refine aE tok Tryz.func25 rfl rfl ?_;refine wx ?_;simp -dsimp[Tryz.f25,oE,hSe];refine aI (eI 81 11 [3] (by simp) (W_loopM 37 0x1fffffe0a8 (by simp[mB]<;>rfl) (σ:=Nat) (fun i=>i≤xs.length) (fun i=>xs.length-i) (fun i=>[(13,.int .i64 i),(3,.buf 1 0 (jrL (xs.take i)).length (jrL (xs.take i)).length)]) (fun i=>[S,B.buf 81 11 ((jrL (xs.take i)).map (aK false false)) false]) 0 (by omega) (by simp[jrL]) (by simp[jrL,hSe]) (by simp) ?_));intro i hi N Q hN hQ;by_cases hb:i<xs.length
 ·have hst:=jr_take hb;have hln:=jr_len2 hb;have hxc:=hc _ (oI hb);obtain⟨x,hxe⟩:∃x,x=xs[i]:=⟨_,rfl⟩;rw[←hxe]at hst hln hxc;obtain⟨l,hle⟩:∃l,l=jrL (xs.take i):=⟨_,rfl⟩;rw[←hle]at hst hln ⊢;obtain⟨y,hye⟩:∃y,y=x.l:=⟨_,rfl⟩;rw[←hye]at hst hln hxc;have hye':=hye.symm;refine wx ?_;simp -dsimp[hb,hxe.symm,aY,hye'];refine aI (W_loopM 36 0xffff80088 (by simp[mB]<;>rfl) (σ:=Nat) (fun j=>j≤y.length) (fun j=>y.length-j) (fun j=>[(19,.int .i64 j),(3,.buf 1 0 (l++y.take j).length (l++y.take j).length)]) (fun j=>[S,B.buf 81 11 ((l++y.take j).map (aK false false)) false]) 0 (by omega) (by simp) (by simp) (by simp) ?_);intro j hj N2 Q2 hN2 hQ2
  have hyl:(l++y.take j).length=l.length+j:=by simp;omega
  by_cases hb2:j<y.length
  ·have hs2:l++y.take (j+1)=(l++y.take j)++[y[j]]:=by rw[oN hb2,oh]
   have hcc:=hxc _ (oI hb2);obtain⟨c,hce⟩:∃c,c=y[j]:=⟨_,rfl⟩;rw[←hce]at hs2 hcc;obtain⟨z,hz⟩:∃z,z=l++y.take j:=⟨_,rfl⟩;rw[←hz]at hs2 hyl ⊢;have c1:=fW c.tb false false hcc.t.a hcc.t.r hcc.t.v;have c2:=row_s c.row hcc.v;simp only[aD,LS,LR,aC,LV]at c1 c2;refine wx ?_;simp -dsimp[hb2,hce.symm,aK,chC];refine aI (aX tok mixed [7,9] [] [(.agg [.str c.tb.name,.lst 1 false (c.tb.attrs.map V.str),.lst 2 false (c.tb.rows.map aC)],[]),(.agg [.int .i64 c.row.id,.lst 3 false (c.row.vals.map aF)],[])] (by kernel_rfl) fun C K hC hK=>?_);simp -implicitDefEqProofs [];refine⟨⟨hC _ _ _ _ (aT c1 (by simp)),hC _ _ _ _ (aT c2 (by simp))⟩,hK _ _ ?_⟩;simp -dsimp[hyl,capJn (l.length+j) (by omega),aP j (by omega)];refine hN2 (j+1) _ _ (by omega) (by omega) (by simp[hs2,hyl]) ⟨[B.cells (chC false false c)],by simp[hs2,aK,chC]⟩ (by simp) (hrb _)
  ·obtain rfl:j=y.length:=by omega
   rw[oY];refine wx ?_;simp -dsimp[hb2];refine hQ2 _ _ _ ?_;simp -dsimp[aP i (by omega)];refine hN (i+1) _ _ (by omega) (by omega) (by simp[hst]) ⟨[],by simp[hst]⟩ (by simp) (hrb _)
 ·obtain rfl:i=xs.length:=by omega
  rw[oY];refine eo 1 [3] rfl (by simp) ?_;refine wx ?_;simp -dsimp[hb];refine hQ _ _ _ ?_;simp -dsimp[]
theorem is_l(t0 u:Tb)(fx:Bool)(xs:List Tx)(js:List Ch)(f1 g1 f2 g2 gg:Bool)(L ud:V)(o:Bool)(hj:jrL xs=fT t0::js)(hx:xs.length≤1000000)(hl:(jrL xs).length≤1000000)(hc:∀x∈xs,∀c∈x.l,ChL c)(hu:TbL u)
  (hz0:∀r∈t0.rows,∀v∈r.vals,v.s.size≤maxLen) (hz:∀r∈u.rows,∀v∈r.vals,v.s.size≤maxLen) (hL:AM.Pure L) (p:StQ (LTb gg [u]) (.lst 1 fx (xs.map aY)) ud)
  (hs:aJ Tryz.prog 26 [.lst 11 false (js.map (aK false false)),L] fun r=>r = .bool true):
  aU Tryz.prog 10 [.ptr 0 0,aD f1 g1 t0,aD f2 g2 u,L] [stB (LTb gg [u]) (.lst 1 fx (xs.map aY)) ud o .nilS] fun r H'=>r = .bool true∧H'=[stB (LTb gg [u]) (.lst 1 fx (xs.map aY)) ud o .nilS]:=by
 refine gW ?_ (by simp) (by simp) p.rb1
 have h0:TbL t0:=by
  have hm:fT t0∈jrL xs:=by rw[hj];simp
  obtain⟨x,hx1,hx2⟩:=List.mem_flatMap.1 hm;exact(hc x hx1 _ hx2).t
 have c1:=db_l [u] gg (.lst 1 fx (xs.map aY)) ud o (by simp) (fun t ht=>by simp at ht;subst ht;exact hu) p;have c2:=journal_l (LTb gg [u]) fx xs ud o hx hl hc p;have c3:=iO u u false false f2 g2 hu.a hu.r (fun r hr=>⟨hu.v r hr,hz r hr⟩);have c4:=iO t0 t0 false false f1 g1 h0.a h0.r (fun r hr=>⟨h0.v r hr,hz0 r hr⟩);rw[fR]at c3 c4;rw[hj]at c2
 have d1:=fun G0 G1=>mv (H:=[stB (LTb gg [u]) (.lst 1 fx (xs.map aY)) ud o .nilS,G0,G1]) (k:=0) c1 p (by simp) (by simp[LTb]) rfl
 have d2:=fun G0 G1 G2=>mv (H:=[stB (LTb gg [u]) (.lst 1 fx (xs.map aY)) ud o .nilS,G0,G1,G2]) (k:=0) c2 p (by simp) (by simp) rfl
 obtain⟨S,hS⟩:∃S,S=stB (LTb gg [u]) (.lst 1 fx (xs.map aY)) ud o .nilS:=⟨_,rfl⟩;simp only[←hS]at d1 d2 ⊢;simp only[aD,LS,LR]at c3 c4;refine aE tok Tryz.func10 rfl rfl ?_;refine wx ?_;simp -dsimp[Tryz.f10,oE,aD,LS,LR];refine wcm (d1 _ _) ?_;rintro r H' ⟨rfl,rfl⟩;simp -dsimp[LTb,aD,LS,LR];refine wcm (d2 _ _ _) ?_;rintro r H' ⟨rfl,rfl⟩;simp -dsimp[LTb,aD,LS,LR];refine .inr ⟨aS (by kernel_rfl),?_⟩;refine az _ (aT (c3) (by simp)) ?_;simp -dsimp[aK,chC,fT];refine az _ (aT (c4) (by simp)) ?_;simp -dsimp[aK,chC,fT];rw[show qi js.length (js.map (aK false false))=js.map (aK false false) from pA (by simp)];refine az _ (aT hs (by simp;exact hL)) ?_;simp -dsimp[]
theorem wce{P:Program}{f:FuncId}{args:List V}{H H0:List B}{r0:V}{K:V→List B→Prop}(h:aU P f args H fun r H'=>r=r0∧H'=H0)(hk:K r0 H0):aL P (.fn f []) args H K :=
 wcm h fun _ _ hh=>hh.1▸hh.2▸hk
def txC(t:Tb):List Tx:=[⟨true,[fT t]⟩]
theorem kz(t:Tb):StP (LTb false [t]) .nilS .nilS ((txC t).map aY):=⟨by simp,by simp,by simp,by simp[txC],rfl,rfl,rfl,by simp[txC,aY,V.cells,V.one]⟩
theorem same_e:aJ Tryz.prog 26 [.lst 11 false (([]:List Ch).map (aK false false)),.nilS] fun r=>r = .bool true:=by
 refine sPx Tryz.func26 rfl rfl ?_;simp -dsimp[Tryz.f26,oE];refine aI (W_loopM 27 0x7fff830 (by simp[mB]<;>rfl) (σ:=Unit) (fun _=>True) (fun _=>0) (fun _=>[(5,.int .i64 0)]) (fun _=>[]) () trivial (by simp) rfl (by simp) ?_);rintro⟨⟩ _ N Q hN hQ;refine wx ?_;simp -dsimp[];refine hQ _ _ _ ?_;simp -dsimp[]
def stC(t:Tb)(L:Nat)(o:Bool):B:=stB (LTb false [t]) (.buf L 0 1 1) .nilS o .nilS
def dnC(t:Tb):B:=dnS ((txC t).map aY)
theorem tbL_of{t:Tb}(h:TbS t)(hv:aG t=0):TbL t:=⟨h.ok,by have:=(tbC hv).wide;omega,by have:=h.few;omega,fun r hr=>by have:=(tbC hv).len r hr;have:=(tbC hv).wide;omega⟩
theorem is_c(t:Tb)(h:TbL t)(hz:∀r∈t.rows,∀v∈r.vals,v.s.size≤maxLen):aU Tryz.prog 10 [.ptr 0 0,aD false false t,aD false false t,.nilS] [stC t 1 false,dnC t] fun r H'=>r = .bool true∧H'=[stC t 1 false,dnC t] :=
 is_true t t (txC t) [] false false false false false .nilS .nilS .nilS false rfl (by simp[txC]) (by simp[txC,jrL]) (fun x hx c hc=>by
  simp[txC]at hx;subst hx;simp at hc;subst hc
  exact⟨h,by simp[fT]⟩) h hz hz (by simp) (kz t) same_e
end
end Go.Proofs.YtdnhplencamncaaGreatDoor
