/- JQ22: own texts of this seat, joined and shortened by pack4.py: StA, ST0, ST1, ST2, ST3, Bk, ST4, ST5. -/
import Derived.Test.YtpedcgdgjoblkaaGreatDoorJQ20
import Derived.Test.YtpedcgdgjoblkaaGreatDoorJQ21
import Derived.RangeFuncBox
import Derived.WalkKit
import Derived.OwnWalkIn
import Derived.TacticsInMore
import Derived.LoopNIn
import Derived.LoopIn
set_option linter.unusedVariables false
set_option linter.unusedSimpArgs false
set_option maxRecDepth 100000
set_option maxHeartbeats 64000000
open ByteArray renaming empty→br
open List renaming replicate→ba,mem_of_getElem?→bv,getElem?_eq_getElem→ca,getElem?_append_left→cb,range→ce,getElem_mem→cm,getElem?_set_ne→ct,getElem?_append_right→dB,not_mem_nil→dk,append_nil→eD,getElem?_set_self→eN,mem_cons→ed,take_succ_eq_append_getElem→fp,nil_append→ld,length_cons→lf,take_of_length_le→lm,take_length→oz,map_cons→pB,append_assoc→pC,set_cons_zero→pG,set_cons_succ→pH,take_append_drop→pI,length_append→pS,mem_singleton→pT,length_nil→pU,take→pg
open Nat renaming le_refl→cd,zero_add→ou
namespace Go.Proofs.YtpedcgdgjoblkaaGreatDoor
section
open Go Go.AM
theorem conH_le{P:Program}{f:FuncId}{args args':List V}{H:List B}{K:V→List B→Prop}(h:aZ P f args' H K)(hl:args.length=args'.length)(hle:∀(i:Nat) a b,args[i]?=some a→args'[i]?=some b→Le a b):aZ P f args H K :=
 ⟨h.1,fun s vals h1 h2 h3 h4=>h.2 s vals h1 h2 (h3.trans hl) (fun i b u hb hu=>by
  have hi:=aB hb;have ha:args[i]?=some (args[i]'(by omega)):=ca (by omega)
  exact(hle i _ b ha hb).rel (h4 i _ u ha hu))⟩
def g2(k L:Nat)(i:Nat):Nat:=if i=0 then k else L
theorem lift2{P:Program}{f:FuncId}{args0 args:List V}{A0 A1 B0 B1 C0 C1 D0 D1:B}{r0:V}{H:List B}{k L:Nat}(h:aZ P f args0 [A0,A1] fun r H'=>r=r0∧H'=[C0,C1])
  (hkL:k≠L) (h0:H[k]?=some B0) (h1:H[L]?=some B1) (R0:RenB (g2 k L) 2 A0 B0) (R1:RenB (g2 k L) 2 A1 B1) (S0:RenB (g2 k L) 2 C0 D0) (S1:RenB (g2 k L) 2 C1 D1)
  (hal:args0.length=args.length) (ha:∀(i:Nat) a b,args0[i]?=some a→args[i]?=some b→Ren (g2 k L) 2 a b) (hr:AM.Pure r0):aZ P f args H fun r H'=>r=r0∧H'=(H.set k D0).set L D1:=by
 have hk:=aB h0;have hL:=aB h1;refine conH_lift 2 2 (g2 k L) h rfl rfl (cd _) (fun i j hi hj e=>?_) (fun i hi=>?_) (fun i h1 h2=>absurd h1 (by omega)) (fun i b hb=>?_) (fun i b hb=>?_) (by simp) (fun j hj hno=>?_) hal ha hr
 ·match i,j,hi,hj with
  | 0,0,_,_=>rfl
  | 0,1,_,_=>simp[g2]at e;exact absurd e hkL
  | 1,0,_,_=>simp[g2]at e;exact absurd e.symm hkL
  | 1,1,_,_=>rfl
 ·match i,hi with
  | 0,_=>exact hk
  | 1,_=>exact hL
 ·match i with
  | 0=>simp at hb;subst hb;exact⟨_,h0,R0⟩
  | 1=>simp at hb;subst hb;exact⟨_,h1,R1⟩
  | i+2=>simp at hb
 ·match i with
  | 0 =>
   simp at hb;subst hb;exact⟨D0,by show((H.set k D0).set L D1)[k]?=_;rw[ct (Ne.symm hkL),eN hk],S0⟩
  | 1 =>
   simp at hb;subst hb;exact⟨D1,by show((H.set k D0).set L D1)[L]?=_;rw[eN (by simpa using hL)],S1⟩
  | i+2=>simp at hb
 ·have n0:k≠j:=hno 0 (by omega);have n1:L≠j:=hno 1 (by omega);rw[ct n1,ct n0]
def g12(k n:Nat)(i:Nat):Nat:=if i=0 then k else n
theorem lift12{P:Program}{f:FuncId}{args0 args:List V}{A0 B0 C0 C1 D0 D1:B}{r0:V}{H:List B}{k:Nat}(h:aZ P f args0 [A0] fun r H'=>r=r0∧H'=[C0,C1])
  (h0:H[k]?=some B0) (R0:RenB (g12 k H.length) 1 A0 B0) (S0:RenB (g12 k H.length) 2 C0 D0) (S1:RenB (g12 k H.length) 2 C1 D1)
  (hal:args0.length=args.length) (ha:∀(i:Nat) a b,args0[i]?=some a→args[i]?=some b→Ren (g12 k H.length) 1 a b) (hr:AM.Pure r0):aZ P f args H fun r H'=>r=r0∧H'=H.set k D0++[D1]:=by
 have hk:=aB h0;refine conH_lift 1 2 (g12 k H.length) h rfl rfl (by omega) (fun i j hi hj e=>?_) (fun i hi=>?_) (fun i h1 h2=>?_) (fun i b hb=>?_) (fun i b hb=>?_) (by simp) (fun j hj hno=>?_) hal ha hr
 ·match i,j,hi,hj with
  | 0,0,_,_=>rfl
  | 0,1,_,_=>simp[g12]at e;omega
  | 1,0,_,_=>simp[g12]at e;omega
  | 1,1,_,_=>rfl
 ·match i,hi with
  | 0,_=>exact hk
 ·match i,h1,h2 with
  | 1,_,_=>simp[g12]
 ·match i with
  | 0=>simp at hb;subst hb;exact⟨_,h0,R0⟩
  | i+1=>simp at hb
 ·match i with
  | 0 =>
   simp at hb;subst hb;exact⟨D0,by show(H.set k D0++[D1])[k]?=_;rw[cb (by simpa using hk),eN hk],S0⟩
  | 1 =>
   simp at hb;subst hb;exact⟨D1,by show(H.set k D0++[D1])[H.length]?=_;rw[dB (by simp)];simp,S1⟩
  | i+2=>simp at hb
 ·have n0:k≠j:=hno 0 (by omega);rw[cb (by simpa using hj),ct n0]
def stB(db dn ud:V)(o:Bool)(nw:V):B:=.cells [db,dn,ud,.bool o,nw]
def dnS(dl:List V):B:=.buf 25 1 dl false
theorem ren_st{g:Nat→Nat}{n m:Nat}{db ud nw:V}{o:Bool}(h1:1<n)(hd:AM.Pure db)(hu:AM.Pure ud)(hw:AM.Pure nw)(o1:db.one=true)(o2:ud.one=true)(o3:nw.one=true):RenB g n (stB db (.buf 1 0 m m) ud o nw) (stB db (.buf (g 1) 0 m m) ud o nw):=by
 refine .cells _ _ rfl (fun c hc=>?_) (fun i c d hc hd'=>?_)
 ·simp only[ed,dk,or_false]at hc
  rcases hc with rfl | rfl | rfl | rfl | rfl<;>first | rfl | assumption
 ·match i with
  | 0=>simp at hc hd';subst hc;subst hd';exact .pure _ hd
  | 1=>simp at hc hd';subst hc;subst hd';exact .buf 1 0 m m h1
  | 2=>simp at hc hd';subst hc;subst hd';exact .pure _ hu
  | 3=>simp at hc hd';subst hc;subst hd';exact .pure _ (.bool _)
  | 4=>simp at hc hd';subst hc;subst hd';exact .pure _ hw
  | i+5=>simp at hc
theorem ren_st0{g:Nat→Nat}{n:Nat}{db dn ud nw:V}{o:Bool}(hd:AM.Pure db)(hn:AM.Pure dn)(hu:AM.Pure ud)(hw:AM.Pure nw)(o1:db.one=true)(o4:dn.one=true)(o2:ud.one=true)(o3:nw.one=true):RenB g n (stB db dn ud o nw) (stB db dn ud o nw):=by
 refine .cells _ _ rfl (fun c hc=>?_) (fun i c d hc hd'=>?_)
 ·simp only[ed,dk,or_false]at hc
  rcases hc with rfl | rfl | rfl | rfl | rfl<;>first | rfl | assumption
 ·match i with
  | 0=>simp at hc hd';subst hc;subst hd';exact .pure _ hd
  | 1=>simp at hc hd';subst hc;subst hd';exact .pure _ hn
  | 2=>simp at hc hd';subst hc;subst hd';exact .pure _ hu
  | 3=>simp at hc hd';subst hc;subst hd';exact .pure _ (.bool _)
  | 4=>simp at hc hd';subst hc;subst hd';exact .pure _ hw
  | i+5=>simp at hc
theorem ren_dn{g:Nat→Nat}{n:Nat}{dl:List V}(h:∀x∈dl,AM.Pure x):RenB g n (dnS dl) (dnS dl):=.buf _ _ _ _ h
structure StP (db ud nw:V) (dl:List V):Prop where
 pdb:AM.Pure db
 pud:AM.Pure ud
 pnw:AM.Pure nw
 pdl:∀x∈dl,AM.Pure x
 odb:db.one=true
 oud:ud.one=true
 onw:nw.one=true
 odl:∀x∈dl,∀c∈x.cells,c.one=true
theorem StP.rb{db ud nw:V}{dl:List V}(h:StP db ud nw dl){m:Nat}{o:Bool} : ∀bl∈[stB db (.buf 1 0 m m) ud o nw,dnS dl],rbB 2 bl:=fun bl hbl=>by
 simp only[ed,dk,or_false]at hbl
 rcases hbl with rfl | rfl
 ·intro c hc;simp only[ed,dk,or_false]at hc
  rcases hc with rfl | rfl | rfl | rfl | rfl
  ·exact iN h.pdb h.odb
  ·show 1<2;omega
  ·exact iN h.pud h.oud
  ·simp[rb1]
  ·exact iN h.pnw h.onw
 ·exact(da h.pdl h.odl).2 trivial
theorem gE{P:Program}{f:FuncId}{ar:List V}{db ud nw db' ud' nw' r0:V}{dl dl':List V}{m m':Nat}{o o':Bool}{H:List B}{k L:Nat}
  (h:aZ P f (.ptr 0 0::ar) [stB db (.buf 1 0 m m) ud o nw,dnS dl] fun r H'=>r=r0∧H'=[stB db' (.buf 1 0 m' m') ud' o' nw',dnS dl'])
  (p:StP db ud nw dl) (p':StP db' ud' nw' dl') (has:∀a∈ar,AM.Pure a) (hr:AM.Pure r0) (hkL:k≠L) (h0:H[k]?=some (stB db (.buf L 0 m m) ud o nw)) (h1:H[L]?=some (dnS dl)):
  aZ P f (.ptr k 0::ar) H fun r H'=>r=r0∧H'=(H.set k (stB db' (.buf L 0 m' m') ud' o' nw')).set L (dnS dl'):=by
 have e:g2 k L 1=L:=rfl;refine lift2 h hkL h0 h1 ?_ (ren_dn p.pdl) ?_ (ren_dn p'.pdl) rfl (fun i a b ha hb=>?_) hr
 ·have:=ren_st (g:=g2 k L) (n:=2) (m:=m) (o:=o) (by omega) p.pdb p.pud p.pnw p.odb p.oud p.onw
  rwa [e]at this
 ·have:=ren_st (g:=g2 k L) (n:=2) (m:=m') (o:=o') (by omega) p'.pdb p'.pud p'.pnw p'.odb p'.oud p'.onw
  rwa [e]at this
 ·cases i with
  | zero =>
   simp at ha hb;subst ha;subst hb;exact .ptr 0 0 (by omega)
  | succ i =>
   simp only[List.getElem?_cons_succ]at ha hb;rw[ha]at hb;cases hb;exact .pure _ (has _ (bv ha))
theorem set_sameH{H:List B}{k:Nat}{b:B}(h:H[k]?=some b):H.set k b=H:=by
 obtain⟨h1,h2⟩:=List.getElem?_eq_some_iff.1 h;rw[←h2];exact List.set_getElem_self h1
theorem bX{P:Program}{f:FuncId}{ar:List V}{db ud nw r0:V}{dl:List V}{m:Nat}{o:Bool}{H:List B}{k L:Nat}
  (h:aZ P f (.ptr 0 0::ar) [stB db (.buf 1 0 m m) ud o nw,dnS dl] fun r H'=>r=r0∧H'=[stB db (.buf 1 0 m m) ud o nw,dnS dl])
  (p:StP db ud nw dl) (has:∀a∈ar,AM.Pure a) (hr:AM.Pure r0) (hkL:k≠L) (h0:H[k]?=some (stB db (.buf L 0 m m) ud o nw)) (h1:H[L]?=some (dnS dl)):
  aZ P f (.ptr k 0::ar) H fun r H'=>r=r0∧H'=H :=
 (gE h p p has hr hkL h0 h1).mono fun r H' ⟨e1,e2⟩=>⟨e1,by rw[e2,set_sameH h0,set_sameH h1]⟩
theorem wcm{P:Program}{f:FuncId}{args:List V}{H:List B}{K K':V→List B→Prop}(h:aZ P f args H K)(hk:∀r H',K r H'→K' r H'):aI P (.fn f []) args H K':=by
 simp only[aI,eD];exact h.mono hk
theorem cut1{P:Program}{f:FuncId}{args:List V}{H Hf:List B}{r0:V}(h:aZ P f args H fun r H'=>r=r0∧∃G,H'=Hf++G)(hl:H.length≤Hf.length)(hr:rb Hf.length r0)(hb:∀bl∈Hf,rbB Hf.length bl):aZ P f args H fun r H'=>r=r0∧H'=Hf :=
 (conH_cutE (σ:=Unit) (ok:=fun _=>True) (rf:=fun _=>r0) (Hf:=fun _=>Hf) (h.mono fun r H' ⟨h1,h2⟩=>⟨(),trivial,h1,h2⟩) (fun _ _=>hl) (fun _ _=>hr) (fun _ _=>hb)).mono fun r H' ⟨_,_,h1,h2⟩=>⟨h1,h2⟩
theorem new_s(H:List B):aZ Tryz.prog 26 [] H fun r H'=>r = .ptr H.length 0∧H'=H++[stB .nilS .nilS .nilS false .nilS]:=by
 refine aK tok Tryz.func26 rfl rfl ?_;refine wx ?_;simp -dsimp[Tryz.f26,ba,stB]
theorem begin0(db dn ud nw:V)(D:B):aZ Tryz.prog 18 [.ptr 0 0] [stB db dn ud false nw,D] fun r H'=>r = .int .i64 0∧H'=[stB db dn ud true nw,D]:=by
 refine aK tok Tryz.func18 rfl rfl ?_;refine wx ?_;simp -dsimp[Tryz.f18,ba,stB]
theorem begin1(db dn ud nw:V)(D:B):aZ Tryz.prog 18 [.ptr 0 0] [stB db dn ud true nw,D] fun r H'=>r = .int .i64 16∧H'=[stB db dn ud true nw,D]:=by
 refine aK tok Tryz.func18 rfl rfl ?_;refine wx ?_;simp -dsimp[Tryz.f18,ba,stB]
theorem end1(db dn ud nw:V)(D:B):aZ Tryz.prog 56 [.ptr 0 0] [stB db dn ud true nw,D] fun r H'=>r = .tup [nw,.int .i64 0]∧H'=[stB db dn ud false .nilS,D]:=by
 refine aK tok Tryz.func56 rfl rfl ?_;refine wx ?_;simp -dsimp[Tryz.f56,ba,stB]
theorem commit0(H:List B)(k:Nat):aZ Tryz.prog 57 [.ptr k 0,.nilS] H fun r H'=>r = .tup []∧H'=H:=by
 refine aK tok Tryz.func57 rfl rfl ?_;refine wx ?_;simp -dsimp[Tryz.f57,ba]
theorem commitN(db dn ud:V)(D:B):aZ Tryz.prog 22 [.ptr 0 0] [stB db dn ud true .nilS,D] fun r H'=>r = .int .i64 0∧H'=[stB db dn ud false .nilS,D]:=by
 have c1:=end1 db dn ud .nilS D;have c2:=commit0 [stB db dn ud false .nilS,D] 0;simp only[stB]at c1 c2;refine aK tok Tryz.func22 rfl rfl ?_;refine wx ?_;simp -dsimp[Tryz.f22,ba,stB];refine wcm c1 ?_;rintro r H' ⟨rfl,rfl⟩;simp -dsimp[];refine wcm c2 ?_;rintro r H' ⟨rfl,rfl⟩;simp -dsimp[];rfl
theorem cloneNil_B:aE Tryz.prog 81 [.nilS] fun r=>r = .nilS:=by
 refine sPx Tryz.func81 rfl rfl ?_;simp -dsimp[Tryz.f81,ba,eqA2,eqA]
def ef(t:Tb):Ch:=⟨1,t.name,t,⟨0,[]⟩,0,vl0⟩
structure TbL (t:Tb):Prop where
 ok:TbOk t
 a:t.attrs.length≤1000000
 r:t.rows.length≤1000000
 v:∀r∈t.rows,r.vals.length≤1000000
theorem creE_nil{t:Tb}(h:aQ t=0):gU [] t=0:=by
 unfold gU;rw[if_pos h,if_neg,if_neg]
 ·simp
 ·rw[ixT];simp
theorem exp_db{H:List B}{k e:Nat}{x:V}{fz:Bool}(hk:H[k]?=some (.buf e 3 [x] fz))(hp:AM.Pure x):ExpX H (.tup [.agg [.buf k 0 1 1],.int .i64 0]) (.tup [.agg [.lst 3 false [x]],.int .i64 0]):=by
 refine .tup _ _ rfl (fun i c d hc hd=>?_)
 match i with
 | 0 =>
  simp at hc hd;subst hc;subst hd;refine .agg _ _ rfl (fun j c d hc hd=>?_)
  match j with
  | 0=>simp at hc hd;subst hc;subst hd;exact expx_buf hk rfl (by simpa using hp)
  | k+1=>simp at hc
 | 1=>simp at hc hd;subst hc;subst hd;exact .pure _ (by simp)
 | k+2=>simp at hc
theorem apply_cre(t:Tb)(h:TbL t)(hv:aQ t=0):aE Tryz.prog 82 [.agg [.nilS],ax false false (ef t)] fun x=>x = .tup [.agg [LTb false [t]],.int .i64 0]:=by
 have c1:=creates_s [] false t false false (by simp) h.ok;rw[creE_nil hv]at c1
 have c1':aE Tryz.prog 119 [.agg [.nilS],aF false false t] fun r=>r = .int .i64 0:=conP_args c1 rfl (fun i a b ha hb=>by
  match i with
  | 0 =>
   simp[LTb]at ha hb;subst ha;subst hb
   exact .agg _ _ rfl (fun j c d hc hd=>by
    match j with
    | 0=>simp at hc hd;subst hc;subst hd;exact .nil _ _
    | j+1=>simp at hc)
  | 1=>simp at ha hb;subst ha;subst hb;exact .refl _
  | i+2=>simp at ha)
 have c2:=eh t false false h.a h.r h.v;simp only[aF,LS,LR]at c1' c2;refine conP_of_conX (aK tok Tryz.func82 rfl rfl ?_);refine wx ?_;simp -dsimp[Tryz.f82,ba,ax,chC,ef,aF,LS,LR,LTb];refine cPx (c1') (by simp) ?_;simp -dsimp[];refine aR (ao tok mixed [7,9] [] [(.nilS,[]),(.agg [.str t.name,.lst 1 false (t.attrs.map V.str),.lst 2 false (t.rows.map aT)],[])] (by kernel_rfl) fun C K hC hK=>?_);simp -implicitDefEqProofs [];refine⟨⟨hC _ _ _ _ (aW cloneNil_B (by simp)),hC _ _ _ _ (aW c2 (by simp))⟩,hK _ _ ?_⟩;simp -dsimp[];exact exp_db rfl (by simp)
theorem commit1(db ud nw:V)(o f:Bool)(cs dl:List V)(hc:0<cs.length)(hd:dl.length≤1000000):aZ Tryz.prog 57 [.ptr 0 0,.lst 11 f cs] [stB db (.buf 1 0 dl.length dl.length) ud o nw,dnS dl] fun r H'=>r = .tup []∧H'=[stB db (.buf 1 0 (dl.length+1) (dl.length+1)) .nilS o nw,dnS (dl++[.lst 11 f cs])]:=by
 obtain⟨n,hn⟩:∃n,n=dl.length:=⟨_,rfl⟩;rw[←hn]at hd ⊢;have hn':=hn.symm;refine aK tok Tryz.func57 rfl rfl ?_;refine wx ?_;simp -dsimp[Tryz.f57,ba,stB,dnS,hc,show(0:Int)<cs.length by omega,hn',cap24 n (by omega)]
theorem perform_cre(t:Tb)(h:TbL t)(hv:aQ t=0):aZ Tryz.prog 59 [.ptr 0 0,ax false false (ef t)] [stB .nilS (.buf 1 0 0 0) .nilS false .nilS,dnS []] fun r H'=>r = .int .i64 0∧H'=[stB (LTb false [t]) (.buf 1 0 1 1) .nilS false .nilS,dnS [.lst 11 true [ax false false (ef t)]]]:=by
 refine cut1 ?_ (by simp) (by simp) ?rb
 case rb=>exact StP.rb ⟨by simp,by simp,by simp,by simp,rfl,rfl,rfl,by simp[V.cells,V.one]⟩
 have c1:=apply_cre t h hv
 have c2:=fun G0 G1=>gE (H:=[stB (LTb false [t]) (.buf 1 0 0 0) .nilS false .nilS,dnS [],G0,G1]) (k:=0) (L:=1) (commit1 (LTb false [t]) .nilS .nilS false true [ax false false (ef t)] [] (by simp) (by simp)) ⟨by simp,by simp,by simp,by simp,rfl,rfl,rfl,by simp⟩ ⟨by simp,by simp,by simp,by simp,rfl,rfl,rfl,by simp[V.cells,V.one]⟩ (by simp) (by simp) (by decide) rfl rfl
 simp only[ax,chC,ef,vl0,aF,LS,LR,LTb,stB,pU,ou,ld,pG,pH,pB,List.map_nil]at c1 c2 ⊢;refine aK tok Tryz.func59 rfl rfl ?_;refine wx ?_;simp -dsimp[Tryz.f59,ba];refine aR (ao tok mixed [9,10] [(0,[1]),(1,[1]),(2,[1]),(3,[1]),(4,[1]),(5,[1]),(6,[1]),(7,[1]),(8,[1,2])] [(.tup [.agg [.lst 3 false [.agg [.str t.name,.lst 1 false (t.attrs.map V.str),.lst 2 false (t.rows.map aT)]]],.int .i64 0],[])] (by kernel_rfl) fun C K hC hK=>?_);simp -implicitDefEqProofs [];refine⟨⟨hC _ _ _ _ (aW c1 (by simp)),hC _ _ _ _ (aW c1 (by simp))⟩,hK _ _ ?_⟩;simp -dsimp[];refine wcm (c2 _ _) ?_;rintro r H' ⟨rfl,rfl⟩;simp -dsimp[]
theorem le_cre{p a b c d:V} : ∀(i:Nat) x y,[p,.agg [.int .i64 1,a,b,c,d,.int .i64 0,.nilS,.int .i64 0,.int .i64 0,.int .i64 0,.str br]][i]?=some x→[p,.agg [.int .i64 1,a,b,c,d,.int .i64 0,.lst 3 false [],.int .i64 0,.int .i64 0,.int .i64 0,.str br]][i]?=some y→Le x y:=fun i x y hx hy=>by
 match i with
 | 0=>simp at hx hy;subst hx;subst hy;exact .refl _
 | 1 =>
  simp at hx hy;subst hx;subst hy;refine .agg _ _ rfl (fun j u v hu hv=>?_)
  match j with
  | 0=>simp at hu hv;subst hu;subst hv;exact .refl _
  | 1=>simp at hu hv;subst hu;subst hv;exact .refl _
  | 2=>simp at hu hv;subst hu;subst hv;exact .refl _
  | 3=>simp at hu hv;subst hu;subst hv;exact .refl _
  | 4=>simp at hu hv;subst hu;subst hv;exact .refl _
  | 5=>simp at hu hv;subst hu;subst hv;exact .refl _
  | 6=>simp at hu hv;subst hu;subst hv;exact .nil _ _
  | 7=>simp at hu hv;subst hu;subst hv;exact .refl _
  | 8=>simp at hu hv;subst hu;subst hv;exact .refl _
  | 9=>simp at hu hv;subst hu;subst hv;exact .refl _
  | 10=>simp at hu hv;subst hu;subst hv;exact .refl _
  | j+11=>simp at hu
 | i+2=>simp at hx
theorem create_s(t:Tb)(f g:Bool)(h:TbL t)(hv:aQ t=0):aZ Tryz.prog 27 [.ptr 0 0,aF f g t] [stB .nilS .nilS .nilS false .nilS] fun r H'=>r = .int .i64 0∧H'=[stB (LTb false [t]) (.buf 1 0 1 1) .nilS false .nilS,dnS [.lst 11 true [ax false false (ef t)]]]:=by
 refine cut1 ?_ (by simp) (by simp) ?rb
 case rb=>exact StP.rb ⟨by simp,by simp,by simp,by simp,rfl,rfl,rfl,by simp[V.cells,V.one]⟩
 have c1:=eh t f g h.a h.r h.v
 have c2:=fun G0=>gE (H:=[stB .nilS (.buf 1 0 0 0) .nilS false .nilS,dnS [],G0]) (k:=0) (L:=1) (perform_cre t h hv) ⟨by simp,by simp,by simp,by simp,rfl,rfl,rfl,by simp⟩ ⟨by simp,by simp,by simp,by simp,rfl,rfl,rfl,by simp[V.cells,V.one]⟩ (by simp) (by simp) (by decide) rfl rfl
 simp only[ax,chC,ef,vl0,aF,LS,LR,LTb,pG,pH,pB,List.map_nil]at c1 c2 ⊢;refine aK tok Tryz.func27 rfl rfl ?_;refine dV 25 1 [] 0 [1] rfl (eR _ _) (by simp[stB]) ?_;refine wx ?_;simp -dsimp[Tryz.f27,ba];refine .inl (aR (ao tok mixed [6] [] [(.agg [.str t.name,.lst 1 false (t.attrs.map V.str),.lst 2 false (t.rows.map aT)],[]),(.int .i64 0,[stB (.lst 3 false [.agg [.str t.name,.lst 1 false (t.attrs.map V.str),.lst 2 false (t.rows.map aT)]]) (.buf 1 0 1 1) .nilS false .nilS,dnS [.lst 11 true [.agg [.int .i64 1,.str t.name,.str t.name,.lst 1 false (t.attrs.map V.str),.lst 2 false (t.rows.map aT),.int .i64 0,.lst 3 false [],.int .i64 0,.int .i64 0,.int .i64 0,.str br]]],B.cells [.str t.name,.lst 1 f (t.attrs.map V.str),.lst 2 g (t.rows.map aT)]])] (by kernel_rfl) fun C K hC hK=>?_));simp -implicitDefEqProofs [];refine⟨⟨hC _ _ _ _ (aW c1 (by simp)),hC _ _ _ _ (conH_le (c2 _) rfl le_cre)⟩,hK _ _ ?_⟩;simp -dsimp[]
theorem tbs_rb(n e:Nat)(l:List Tb)(fz:Bool):rbB n (.buf e 3 (l.map (aF false false)) fz):=(da (by simp) (by simp[aF,V.cells,LS,LR,V.one])).2 trivial
theorem db_s(ts:List Tb)(g:Bool)(m:Nat)(dl:List V)(ud nw:V)(o:Bool)(hl:ts.length≤1000000)(ht:∀t∈ts,TbL t)(p:StP (LTb g ts) ud nw dl):
  aZ Tryz.prog 37 [.ptr 0 0] [stB (LTb g ts) (.buf 1 0 m m) ud o nw,dnS dl] fun r H'=>r = .agg [LTb false ts]∧H'=[stB (LTb g ts) (.buf 1 0 m m) ud o nw,dnS dl]:=by
 have hd:=p.pdl;have hd1:=p.odl;have hu:=p.pud;have hu1:=p.oud;have hw:=p.pnw;have hw1:=p.onw;refine cut1 ?_ (by simp) (by simp[LTb]) p.rb;obtain⟨S,hS⟩:∃S,S=stB (LTb g ts) (.buf 1 0 m m) ud o nw:=⟨_,rfl⟩;obtain⟨D,hD⟩:∃D,D=dnS dl:=⟨_,rfl⟩;have hSe:S=B.cells [.lst 3 g (ts.map (aF false false)),.buf 1 0 m m,ud,.bool o,nw]:=hS;rw[←hS,←hD]
 have hrbS:∀n,2≤n→rbB n S:=fun n hn=>by
  rw[hS];intro c hc;simp only[ed,dk,or_false]at hc
  rcases hc with rfl | rfl | rfl | rfl | rfl
  ·simp[LTb,rb1]
  ·show 1<n;omega
  ·exact iN hu hu1
  ·simp[rb1]
  ·exact iN hw hw1
 have hrbD:∀n,rbB n D:=fun n=>by rw[hD];exact(da hd hd1).2 trivial
 refine aK tok Tryz.func37 rfl rfl ?_;refine wx ?_;simp -dsimp[Tryz.f37,ba,hSe];refine aR (dV 29 3 [] 3 [0] rfl (eR _ _) (by simp) (W_loopM 24 0xfff020 (by simp[mB]<;>rfl) (σ:=Nat) (fun i=>i≤ts.length) (fun i=>ts.length-i) (fun i=>[(12,.int .i64 i)]) (fun i=>[S,D,B.cells [.nilS],B.cells [.buf 4 0 i i],B.buf 29 3 ((ts.take i).map (aF false false)) false]) 0 (by omega) (by simp) (by simp[hSe]) (by simp) ?_));intro i hi N Q hN hQ
 have hli:(ts.take i).length=i:=by simp;omega
 by_cases hb:i<ts.length
 ·have hst:ts.take (i+1)=ts.take i++[ts[i]]:=fp hb;have hh:=ht _ (cm hb);obtain⟨t,hte⟩:∃t,t=ts[i]:=⟨_,rfl⟩;rw[←hte]at hst hh;have hc:=eh t false false hh.a hh.r hh.v;simp only[aF,LS,LR]at hc;obtain⟨l,hl2⟩:∃l,l=ts.take i:=⟨_,rfl⟩;rw[←hl2]at hst hli ⊢;refine wx ?_;simp -dsimp[hb,hte.symm,aF,LS,LR];refine aR (ao tok mixed [5,7] [] [(aF false false t,[])] (by kernel_rfl) fun C K hC hK=>?_);simp -implicitDefEqProofs [hb,aF,LS,LR,hli,cap64c i (by omega)];refine⟨hC _ _ _ _ (aW hc (by simp)),hK _ _ ?_⟩;simp -dsimp[aa i (by omega)];refine hN (i+1) _ _ (by omega) (by omega) (by simp) ⟨[B.cells [.str t.name,.lst 1 false (t.attrs.map V.str),.lst 2 false (t.rows.map aT)]],by simp[hst,aF,LS,LR]⟩ (by simp) ?_;intro bl hbl;simp only[ed,dk,or_false]at hbl
  rcases hbl with rfl | rfl | rfl | rfl | rfl
  ·exact hrbS _ (by simp)
  ·exact hrbD _
  ·simp
  ·simp
  ·exact tbs_rb _ _ _ _
 ·obtain rfl:i=ts.length:=by omega
  rw[oz];refine eI 4 [] 3 [0] rfl rfl (by simp) (by simp) ?_;refine wx ?_;simp -dsimp[hb];refine hQ _ _ _ ?_;simp -dsimp[];rfl
structure Tx where
 f:Bool
 l:List Ch
def bZ(x:Tx):V:=.lst 11 x.f (x.l.map (ax false false))
@[simp] theorem encTx_pure (x:Tx):AM.Pure (bZ x):=by simp[bZ]
def jrL(xs:List Tx):List Ch:=xs.flatMap (·.l)
structure ChL (c:Ch):Prop where
 t:TbL c.tb
 v:c.row.vals.length≤1000000
theorem capG(n:Nat)(h:n≤1000000):n≤9223372036854775806∧(n+1)*160≤140737488355328:=by omega
theorem jr_take{xs:List Tx}{i:Nat}(h:i<xs.length):jrL (xs.take (i+1))=jrL (xs.take i)++xs[i].l:=by
 unfold jrL;rw[fp h,List.flatMap_append];simp
theorem jr_len{xs:List Tx}{i:Nat} : (jrL (xs.take i)).length≤(jrL xs).length:=by
 have h:jrL xs=jrL (xs.take i)++jrL (xs.drop i):=by
  unfold jrL;rw[←List.flatMap_append,pI]
 rw[h,pS];omega
theorem jr_len2{xs:List Tx}{i:Nat}(h:i<xs.length):(jrL (xs.take i)).length+xs[i].l.length≤(jrL xs).length:=by
 have:=jr_len (xs:=xs) (i:=i+1);rw[jr_take h,pS]at this;exact this
theorem chs_rb(n e:Nat)(l:List Ch)(fz:Bool):rbB n (.buf e 11 (l.map (ax false false)) fz):=(da (by simp) (by simp[ax,chC,V.cells,V.one])).2 trivial
theorem journal_s(db:V)(xs:List Tx)(ud nw:V)(o:Bool)(hx:xs.length≤1000000)(hl:(jrL xs).length≤1000000)(hc:∀x∈xs,∀c∈x.l,ChL c)(p:StP db ud nw (xs.map bZ)):
  aZ Tryz.prog 38 [.ptr 0 0] [stB db (.buf 1 0 xs.length xs.length) ud o nw,dnS (xs.map bZ)] fun r H'=>r = .lst 11 false ((jrL xs).map (ax false false))∧H'=[stB db (.buf 1 0 xs.length xs.length) ud o nw,dnS (xs.map bZ)]:=by
 have hdb:=p.pdb;have hdb1:=p.odb;have hu:=p.pud;have hu1:=p.oud;have hw:=p.pnw;have hw1:=p.onw;refine cut1 ?_ (by simp) (by simp) p.rb;obtain⟨S,hS⟩:∃S,S=stB db (.buf 1 0 xs.length xs.length) ud o nw:=⟨_,rfl⟩;obtain⟨D,hD⟩:∃D,D=dnS (xs.map bZ):=⟨_,rfl⟩;have hSe:S=B.cells [db,.buf 1 0 xs.length xs.length,ud,.bool o,nw]:=hS;have hDe:D=B.buf 25 1 (xs.map bZ) false:=hD;rw[←hS,←hD]
 have hrbS:∀n,2≤n→rbB n S:=fun n hn=>by
  rw[hS];intro c hc;simp only[ed,dk,or_false]at hc
  rcases hc with rfl | rfl | rfl | rfl | rfl
  ·exact iN hdb hdb1
  ·show 1<n;omega
  ·exact iN hu hu1
  ·simp[rb1]
  ·exact iN hw hw1
 have hrbD:∀n,rbB n D:=fun n=>by rw[hD];exact(da (by simp) (by simp[bZ,V.cells,V.one])).2 trivial
 have hrb:∀(l:List Ch),∀bl∈[S,D,B.buf 45 11 (l.map (ax false false)) false],rbB 3 bl:=fun l bl hbl=>by
  simp only[ed,dk,or_false]at hbl
  rcases hbl with rfl | rfl | rfl
  ·exact hrbS _ (by omega)
  ·exact hrbD _
  ·exact chs_rb _ _ _ _
 refine aK tok Tryz.func38 rfl rfl ?_;refine wx ?_;simp -dsimp[Tryz.f38,ba,hSe,hDe];refine aR (W_own 45 11 [3] (by simp) (W_loopM 37 0x1fffffe0a8 (by simp[mB]<;>rfl) (σ:=Nat) (fun i=>i≤xs.length) (fun i=>xs.length-i) (fun i=>[(13,.int .i64 i),(3,.buf 2 0 (jrL (xs.take i)).length (jrL (xs.take i)).length)]) (fun i=>[S,D,B.buf 45 11 ((jrL (xs.take i)).map (ax false false)) false]) 0 (by omega) (by simp[jrL]) (by simp[jrL,hSe,hDe]) (by simp) ?_));intro i hi N Q hN hQ;by_cases hb:i<xs.length
 ·have hst:=jr_take hb;have hln:=jr_len2 hb;have hxc:=hc _ (cm hb);obtain⟨x,hxe⟩:∃x,x=xs[i]:=⟨_,rfl⟩;rw[←hxe]at hst hln hxc;obtain⟨l,hle⟩:∃l,l=jrL (xs.take i):=⟨_,rfl⟩;rw[←hle]at hst hln ⊢;obtain⟨y,hye⟩:∃y,y=x.l:=⟨_,rfl⟩;rw[←hye]at hst hln hxc;have hye':=hye.symm;refine wx ?_;simp -dsimp[hb,hDe,hxe.symm,bZ,hye'];refine aR (W_loopM 36 0xffff80088 (by simp[mB]<;>rfl) (σ:=Nat) (fun j=>j≤y.length) (fun j=>y.length-j) (fun j=>[(19,.int .i64 j),(3,.buf 2 0 (l++y.take j).length (l++y.take j).length)]) (fun j=>[S,D,B.buf 45 11 ((l++y.take j).map (ax false false)) false]) 0 (by omega) (by simp) (by simp[hDe]) (by simp) ?_);intro j hj N2 Q2 hN2 hQ2
  have hyl:(l++y.take j).length=l.length+j:=by simp;omega
  by_cases hb2:j<y.length
  ·have hs2:l++y.take (j+1)=(l++y.take j)++[y[j]]:=by rw[fp hb2,pC]
   have hcc:=hxc _ (cm hb2);obtain⟨c,hce⟩:∃c,c=y[j]:=⟨_,rfl⟩;rw[←hce]at hs2 hcc;obtain⟨z,hz⟩:∃z,z=l++y.take j:=⟨_,rfl⟩;rw[←hz]at hs2 hyl ⊢;have c1:=eh c.tb false false hcc.t.a hcc.t.r hcc.t.v;have c2:=row_s c.row hcc.v;simp only[aF,LS,LR,aT,LV]at c1 c2;refine wx ?_;simp -dsimp[hb2,hce.symm,ax,chC];refine aR (ao tok mixed [7,9] [] [(.agg [.str c.tb.name,.lst 1 false (c.tb.attrs.map V.str),.lst 2 false (c.tb.rows.map aT)],[]),(.agg [.int .i64 c.row.id,.lst 3 false (c.row.vals.map ac)],[])] (by kernel_rfl) fun C K hC hK=>?_);simp -implicitDefEqProofs [];refine⟨⟨hC _ _ _ _ (aW c1 (by simp)),hC _ _ _ _ (aW c2 (by simp))⟩,hK _ _ ?_⟩;simp -dsimp[hyl,capG (l.length+j) (by omega),aa j (by omega)];refine hN2 (j+1) _ _ (by omega) (by omega) (by simp[hs2,hyl]) ⟨[B.cells (chC false false c)],by simp[hs2,ax,chC]⟩ (by simp) (hrb _)
  ·obtain rfl:j=y.length:=by omega
   rw[oz];refine wx ?_;simp -dsimp[hb2];refine hQ2 _ _ _ ?_;simp -dsimp[aa i (by omega)];refine hN (i+1) _ _ (by omega) (by omega) (by simp[hst]) ⟨[],by simp[hst]⟩ (by simp) (hrb _)
 ·obtain rfl:i=xs.length:=by omega
  rw[oz];refine gY 2 [3] rfl (by simp) ?_;refine wx ?_;simp -dsimp[hb,hDe];refine hQ _ _ _ ?_;simp -dsimp[];exact hDe.symm
end
end Go.Proofs.YtpedcgdgjoblkaaGreatDoor
namespace Go.Proofs.YtpedcgdgjoblkaaGreatDoor
section
open Go Go.AM Go.RowKit
attribute [local go_sem] Oper.semAt_some
theorem back_nil(Bs b:Nat)(us:Nat→Nat→Value)(A:Option Addr)(cap:Nat)(w:World)(hB:Bs<w.heap.size)(hc:w.cell? ⟨Bs,0,none⟩=some (.slice A 0 cap)):
  SeqIx Fence.wide 19 Tryz.prog 118 #[.pointer (some ⟨Bs,0,none⟩)] (fun k=>#[.int .i64 ((0-1-k:Nat):Int),.agg ((ce 11).map (us (0-1-k))).toArray]) (KpS fun x=>x=Bs∨x=b) 0 w:=by
 intro l J W hW hJ hY h0;have hBs:W.cell? ⟨Bs,0,none⟩=some (.slice A 0 cap):=(hW.cell (p:=⟨Bs,0,none⟩) hB).trans hc;clear hY hJ;refine callsIn_of_wp Tryz.func118 rfl trivial ?_ rfl;simp only[Tryz.ntmps118,List.size_toArray,lf,pU,Nat.reduceAdd,Nat.reduceSub,Array.replicate_succ,Array.replicate_zero,List.push_toArray,List.append_toArray,ld,List.cons_append]
 gi_wp2
 gi_loopw [3] (fun i wr=>i = .int .i64 (-1)∧J 0 wr) (fun _ _=>0)
 case atStart=>exact⟨rfl,h0⟩
 case round =>
  obtain⟨rfl,hJs⟩:=hrel
  gi_wp2
  go_end0
  exact⟨⟨_,rfl⟩,hJs⟩
end
end Go.Proofs.YtpedcgdgjoblkaaGreatDoor
namespace Go.Proofs.YtpedcgdgjoblkaaGreatDoor
section
open Go Go.AM
theorem is_true(t0 u:Tb)(xs:List Tx)(js:List Ch)(f1 g1 f2 g2 gg:Bool)(L ud nw:V)(o:Bool)(hj:jrL xs=ef t0::js)(hx:xs.length≤1000000)(hl:(jrL xs).length≤1000000)(hc:∀x∈xs,∀c∈x.l,ChL c)(hu:TbL u)
  (hz0:∀r∈t0.rows,∀v∈r.vals,v.s.size≤maxLen) (hz:∀r∈u.rows,∀v∈r.vals,v.s.size≤maxLen) (hL:AM.Pure L) (p:StP (LTb gg [u]) ud nw (xs.map bZ))
  (hs:aE Tryz.prog 40 [.lst 11 false (js.map (ax false false)),L] fun r=>r = .bool true):
  aZ Tryz.prog 12 [.ptr 0 0,aF f1 g1 t0,aF f2 g2 u,L] [stB (LTb gg [u]) (.buf 1 0 xs.length xs.length) ud o nw,dnS (xs.map bZ)] fun r H'=>r = .bool true∧H'=[stB (LTb gg [u]) (.buf 1 0 xs.length xs.length) ud o nw,dnS (xs.map bZ)]:=by
 refine cut1 ?_ (by simp) (by simp) p.rb
 have h0:TbL t0:=by
  have hm:ef t0∈jrL xs:=by rw[hj];simp
  obtain⟨x,hx1,hx2⟩:=List.mem_flatMap.1 hm;exact(hc x hx1 _ hx2).t
 have c1:=db_s [u] gg xs.length (xs.map bZ) ud nw o (by simp) (fun t ht=>by simp at ht;subst ht;exact hu) p;have c2:=journal_s (LTb gg [u]) xs ud nw o hx hl hc p;have c3:=equal03 u u false false f2 g2 hu.a hu.r (fun r hr=>⟨hu.v r hr,hz r hr⟩);have c4:=equal03 t0 t0 false false f1 g1 h0.a h0.r (fun r hr=>⟨h0.v r hr,hz0 r hr⟩);rw[eqTb_self]at c3 c4;rw[hj]at c2
 have d1:=fun G0 G1=>bX (H:=[stB (LTb gg [u]) (.buf 1 0 xs.length xs.length) ud o nw,dnS (xs.map bZ),G0,G1]) (k:=0) (L:=1) c1 p (by simp) (by simp[LTb]) (by decide) rfl rfl
 have d2:=fun G0 G1 G2=>bX (H:=[stB (LTb gg [u]) (.buf 1 0 xs.length xs.length) ud o nw,dnS (xs.map bZ),G0,G1,G2]) (k:=0) (L:=1) c2 p (by simp) (by simp) (by decide) rfl rfl
 obtain⟨S,hS⟩:∃S,S=stB (LTb gg [u]) (.buf 1 0 xs.length xs.length) ud o nw:=⟨_,rfl⟩;obtain⟨D,hD⟩:∃D,D=dnS (xs.map bZ):=⟨_,rfl⟩;simp only[←hS,←hD]at d1 d2 ⊢;simp only[aF,LS,LR]at c3 c4;refine aK tok Tryz.func12 rfl rfl ?_;refine wx ?_;simp -dsimp[Tryz.f12,ba,aF,LS,LR];refine wcm (d1 _ _) ?_;rintro r H' ⟨rfl,rfl⟩;simp -dsimp[LTb,aF,LS,LR];refine wcm (d2 _ _ _) ?_;rintro r H' ⟨rfl,rfl⟩;simp -dsimp[LTb,aF,LS,LR];refine .inr ⟨bN (by kernel_rfl),?_⟩;refine ag _ (aW (c3) (by simp)) ?_;simp -dsimp[ax,chC,ef];refine ag _ (aW (c4) (by simp)) ?_;simp -dsimp[ax,chC,ef];rw[show pg js.length (js.map (ax false false))=js.map (ax false false) from lm (by simp)];refine ag _ (aW hs (by simp;exact hL)) ?_;simp -dsimp[]
theorem enters_of{P:Program}{f:FuncId}{fn:Func}(hf:P.funcs[f]?=some fn)(hb:fn.body.isNone=false)(hn:(fn.name == "runtime.NumGoroutine")=false)(args:Array Value)(w:World):(callFunc f args).run P w = .ok (.enter f args) w:=by
 have h1:¬fn.name = "runtime.NumGoroutine":=by simpa using hn
 have h2:¬fn.body=none:=by intro h;rw[h]at hb;cases hb
 simp[callFunc,go_sem,hf,h1,h2]
theorem noMap_of{H:List B}(h:∀b∈H,∀kk es,b≠.map kk es):NoMap H:=fun k kk es hk=>h _ (bv hk) kk es rfl
theorem back_mk(H:List B)(f:Bool)(xs:List V):aZ Tryz.prog 80 [.lst 11 f xs] H fun r H'=>r = .fn 118 [.ptr H.length 0]∧H'=H++[.cells [.lst 11 f xs]]:=by
 refine aK tok Tryz.func80 rfl rfl ?_;refine wx ?_;simp -dsimp[Tryz.f80,ba]
theorem revert_nil0(H:List B)(k:Nat)(hH:∀bl∈H,rbB H.length bl)(hnm:∀b∈H,∀kk es,b≠.map kk es)(hk:k<H.length):aZ Tryz.prog 42 [.ptr k 0,.lst 11 false []] H fun r H'=>r = .tup []∧H'=H++[.cells [.ptr k 0]]:=by
 have hb1:=back_mk (H++[.cells [.ptr k 0]]) false []
 have hln:(H++[B.cells [.ptr k 0]]).length=H.length+1:=by simp
 refine conH_range tok (f:=42) (gf:=118) (z:=11) Tryz.func42 rfl rfl rfl (by decide) (enters_of Tryz.func118 rfl rfl)
  ((((([V.ptr k 0,V.lst 11 false []]++ba 42 (V.tup [])).set 2 (V.ptr H.length 0)).set 6 (V.lst 11 false [])).set 7 (V.fn 118 [V.ptr (H.length+1) 0])))
  ((((([V.ptr k 0,V.lst 11 false []]++ba 42 (V.tup [])).set 2 (V.ptr H.length 0)).set 6 (V.lst 11 false [])).set 7 V.undef))
  ?less (fun _=>H++[.cells [.ptr k 0]]) (fun _=>[]) (fun _=>[]) [] false 0 rfl ?head ?hg ?hl ?rb0 (fun _ _=>?rb) (fun _ _=>rfl) (fun _ _=>noMap_of ?nm) (fun k hk=>absurd hk (by omega)) (by simp) ?it (fun k hk=>absurd hk (by omega)) (fun k hk=>absurd hk (by omega))
 case less=>simp[ba]
 case head =>
  refine wx ?_;simp -dsimp[Tryz.f42,ba];refine wx ?_;simp -dsimp;refine wcm hb1 ?_;rintro r H' ⟨rfl,rfl⟩;simp -dsimp
 case hg=>simp[ba]
 case hl=>simp
 case rb0 =>
  simp[ba];omega
 case rb =>
  intro bl hbl
  rcases List.mem_append.1 hbl with h | h
  ·exact fo (by simp) (hH bl h)
  ·simp only[pT]at h;subst h;intro c hc;simp only[pT]at hc;subst hc;show k<_;simp;omega
 case nm =>
  intro b hb kk es
  rcases List.mem_append.1 hb with h | h
  ·exact hnm b h kk es
  ·simp only[pT]at h;subst h;simp
 case it =>
  intro Bs b off cap us w h1 h2 h3 _ _
  rcases h3 with h3 | ⟨_,A,h3⟩
  ·rw[if_pos rfl]at h3;exact back_nil Bs b us none cap w h1 h3
  ·exact back_nil Bs b us A cap w h1 h3
theorem revert_nil(H:List B)(k:Nat)(hH:∀bl∈H,rbB H.length bl)(hnm:∀b∈H,∀kk es,b≠.map kk es)(hk:k<H.length):aZ Tryz.prog 42 [.ptr k 0,.nilS] H fun r H'=>r = .tup []∧H'=H++[.cells [.ptr k 0]] :=
 conH_le (revert_nil0 H k hH hnm hk) rfl (fun i a b ha hb=>by
  match i with
  | 0=>simp at ha hb;subst ha;subst hb;exact .refl _
  | 1=>simp at ha hb;subst ha;subst hb;exact .nil _ _
  | i+2=>simp at ha)
theorem rollback0(db ud:V)(m:Nat)(dl:List V)(p:StP db ud .nilS dl):aZ Tryz.prog 30 [.ptr 0 0] [stB db (.buf 1 0 m m) ud true .nilS,dnS dl] fun r H'=>r = .int .i64 0∧H'=[stB db (.buf 1 0 m m) ud false .nilS,dnS dl]:=by
 refine cut1 ?_ (by simp) (by simp) p.rb;have c1:=end1 db (.buf 1 0 m m) ud .nilS (dnS dl);have c2:=revert_nil [stB db (.buf 1 0 m m) ud false .nilS,dnS dl] 0 p.rb (by simp[stB,dnS]) (by simp);obtain⟨D,hD⟩:∃D,D=dnS dl:=⟨_,rfl⟩;rw[←hD]at c1 c2 ⊢;simp only[stB]at c1 c2 ⊢;refine aK tok Tryz.func30 rfl rfl ?_;refine wx ?_;simp -dsimp[Tryz.f30,ba];refine wcm c1 ?_;rintro r H' ⟨rfl,rfl⟩;simp -dsimp[];refine wcm c2 ?_;rintro r H' ⟨rfl,rfl⟩;simp -dsimp[]
section
theorem cut1p{P:Program}{f:FuncId}{args:List V}{H Hf:List B}{r0:V}(h:aZ P f args H fun r H'=>r=r0∧∃G,H'=Hf++G)(hl:H.length≤Hf.length)(hp:AM.Pure r0)(hb:∀bl∈Hf,rbB Hf.length bl):aZ P f args H fun r H'=>r=r0∧H'=Hf:=by
 refine⟨h.1,fun s vals h1 h2 h3 h4=>(h.2 s vals h1 h2 h3 h4).mono fun e w' ⟨u,s',r,a,b,c,d,e1,k1,G,k3⟩=>?_⟩;subst k1;exact⟨u,s'.cut Hf,r,a,b,dU c k3 hb,oM c k3 (Step.refl _) s d (by rw[h1.1];exact hl),Rel.pure_ e1 hp (fun b hb=>⟨bd k3 hb,rfl⟩),rfl,rfl⟩
def zT0:V:=.agg [.str br,.nilS,.nilS]
def z64:V:=.agg [.nilS,.int .i64 0,.nilS]
def z70:V:=.agg [.nilS,.str br,.nilS,.nilS,.nilS,.nilS]
def z75:V:=.agg [.str br,.nilS,.nilS,.nilS,.nilS]
def gb(nm:ByteArray)(S D:B)(e:Int):Prop:=aZ Tryz.prog 28 [.ptr 0 0,.str nm] [S,D] fun r H'=>r = .tup [zT0,.int .i64 e]∧H'=[S,D]
theorem cbeg_open(nm:ByteArray)(db ud:V)(m:Nat)(dl:List V)(p:StP db ud .nilS dl):gb nm (stB db (.buf 1 0 m m) ud true .nilS) (dnS dl) 16:=by
 unfold gb;refine cut1p ?_ (by simp) (by simp[zT0]) p.rb
 have c1:=fun G=>bX (H:=[stB db (.buf 1 0 m m) ud true .nilS,dnS dl,G]) (k:=0) (L:=1) (begin1 db (.buf 1 0 m m) ud .nilS (dnS dl)) p (by simp) (by simp) (by decide) rfl rfl
 obtain⟨S,hS⟩:∃S,S=stB db (.buf 1 0 m m) ud true .nilS:=⟨_,rfl⟩;obtain⟨D,hD⟩:∃D,D=dnS dl:=⟨_,rfl⟩;rw[←hS,←hD]at c1 ⊢;refine aK tok Tryz.func28 rfl rfl ?_;refine wx ?_;simp -dsimp[Tryz.f28,ba,zT0];refine wcm (c1 _) ?_;rintro r H' ⟨rfl,rfl⟩;simp -dsimp[zT0]
theorem cbeg_none(nm:ByteArray)(t:Tb)(ud:V)(m:Nat)(dl:List V)(ht:TbL t)(hne:(t.name.toList == nm.toList)=false)(p:StP (LTb false [t]) ud .nilS dl):gb nm (stB (LTb false [t]) (.buf 1 0 m m) ud false .nilS) (dnS dl) 4:=by
 unfold gb;refine cut1p ?_ (by simp) (by simp[zT0]) p.rb
 have c1:=fun G=>gE (H:=[stB (LTb false [t]) (.buf 1 0 m m) ud false .nilS,dnS dl,G]) (k:=0) (L:=1) (begin0 (LTb false [t]) (.buf 1 0 m m) ud .nilS (dnS dl)) p p (by simp) (by simp) (by decide) rfl rfl
 have c2:=fun G=>bX (H:=[stB (LTb false [t]) (.buf 1 0 m m) ud true .nilS,dnS dl,G]) (k:=0) (L:=1) (db_s [t] false m dl ud .nilS true (by simp) (fun u hu=>by simp at hu;subst hu;exact ht) p) p (by simp) (by simp[LTb]) (by decide) rfl rfl
 have c3:=fun G=>gE (H:=[stB (LTb false [t]) (.buf 1 0 m m) ud true .nilS,dnS dl,G]) (k:=0) (L:=1) (rollback0 (LTb false [t]) ud m dl p) p p (by simp) (by simp) (by decide) rfl rfl
 obtain⟨S,hS⟩:∃S,S=stB (LTb false [t]) (.buf 1 0 m m) ud false .nilS:=⟨_,rfl⟩;obtain⟨S1,hS1⟩:∃S,S=stB (LTb false [t]) (.buf 1 0 m m) ud true .nilS:=⟨_,rfl⟩;obtain⟨D,hD⟩:∃D,D=dnS dl:=⟨_,rfl⟩
 have hrb1:∀n,2≤n→rbB n S1:=fun n hn=>fo hn (by rw[hS1];exact p.rb (m:=m) (o:=true) _ (by simp))
 have hrbD:∀n,2≤n→rbB n D:=fun n hn=>fo hn (by rw[hD];exact p.rb (m:=m) (o:=true) _ (by simp))
 simp only[←hS,←hS1,←hD]at c1 c2 c3 ⊢;simp only[pG,pH]at c1 c3;refine aK tok Tryz.func28 rfl rfl ?_;refine wx ?_;simp -dsimp[Tryz.f28,ba,zT0];refine wcm (c1 _) ?_;rintro r H' ⟨rfl,rfl⟩;simp -dsimp[];refine wcm (c2 _) ?_;rintro r H' ⟨rfl,rfl⟩;simp -dsimp[LTb];refine aR (W_loopM 29 0x1ff80120 (by simp[mB]<;>rfl) (σ:=Nat) (fun i=>i≤1) (fun i=>1-i) (fun i=>[(19,.int .i64 i)]) (fun _=>[S1,D,B.cells [.str br,.nilS,.nilS]]) 0 (by omega) (by simp) rfl (by simp) ?_);intro i hi N Q hN hQ;by_cases hb:i<1
 ·obtain rfl:i=0:=by omega
  refine wx ?_;simp -dsimp[aF,LS,LR,hne];refine hN 1 _ _ (by omega) (by omega) (by simp[aF,LS,LR];rfl) ⟨_,rfl⟩ (by simp) ?_;intro bl hbl;simp only[ed,dk,or_false]at hbl
  rcases hbl with rfl | rfl | rfl
  ·exact hrb1 _ (by simp)
  ·exact hrbD _ (by simp)
  ·simp
 ·obtain rfl:i=1:=by omega
  refine wx ?_;simp -dsimp[];refine hQ _ _ _ ?_;simp -dsimp[];refine wcm (c3 _) ?_;rintro r H' ⟨rfl,rfl⟩;simp -dsimp[zT0]
section
variable {nm:ByteArray} {db ud:V} {m:Nat} {o:Bool} {dl:List V} {e:Int}
theorem fe(p:StP db ud .nilS dl)(h:gb nm (stB db (.buf 1 0 m m) ud o .nilS) (dnS dl) e)(G:List B):aZ Tryz.prog 28 [.ptr 0 0,.str nm] (stB db (.buf 1 0 m m) ud o .nilS::dnS dl::G) fun r H'=>r = .tup [zT0,.int .i64 e]∧H'=stB db (.buf 1 0 m m) ud o .nilS::dnS dl::G :=
 bX (k:=0) (L:=1) h p (by simp) (by simp[zT0]) (by decide) rfl rfl
theorem del_err(p:StP db ud .nilS dl)(h:gb nm (stB db (.buf 1 0 m m) ud o .nilS) (dnS dl) e)(he:¬e=0)(l w:V)(b:Int):aZ Tryz.prog 19 [.ptr 0 0,.str nm,l,w,.int .i64 b] [stB db (.buf 1 0 m m) ud o .nilS,dnS dl] fun r H'=>r = .tup [z64,.int .i64 e]∧H'=[stB db (.buf 1 0 m m) ud o .nilS,dnS dl]:=by
 refine cut1p ?_ (by simp) (by simp[z64]) p.rb;have c1:=fe p h;obtain⟨S,hS⟩:∃S,S=stB db (.buf 1 0 m m) ud o .nilS:=⟨_,rfl⟩;obtain⟨D,hD⟩:∃D,D=dnS dl:=⟨_,rfl⟩;rw[←hS,←hD]at c1 ⊢;refine aK tok Tryz.func19 rfl rfl ?_;refine wx ?_;simp -dsimp[Tryz.f19,ba];refine wcm (c1 _) ?_;rintro r H' ⟨rfl,rfl⟩;simp -dsimp[zT0,he,z64]
theorem upd_err(p:StP db ud .nilS dl)(h:gb nm (stB db (.buf 1 0 m m) ud o .nilS) (dnS dl) e)(he:¬e=0)(l:V)(b:Int):aZ Tryz.prog 20 [.ptr 0 0,.str nm,l,.int .i64 b] [stB db (.buf 1 0 m m) ud o .nilS,dnS dl] fun r H'=>r = .tup [z70,.int .i64 e]∧H'=[stB db (.buf 1 0 m m) ud o .nilS,dnS dl]:=by
 refine cut1p ?_ (by simp) (by simp[z70]) p.rb;have c1:=fe p h;obtain⟨S,hS⟩:∃S,S=stB db (.buf 1 0 m m) ud o .nilS:=⟨_,rfl⟩;obtain⟨D,hD⟩:∃D,D=dnS dl:=⟨_,rfl⟩;rw[←hS,←hD]at c1 ⊢;refine aK tok Tryz.func20 rfl rfl ?_;refine wx ?_;simp -dsimp[Tryz.f20,ba];refine wcm (c1 _) ?_;rintro r H' ⟨rfl,rfl⟩;simp -dsimp[zT0,he,z70]
theorem mrg_err(p:StP db ud .nilS dl)(h:gb nm (stB db (.buf 1 0 m m) ud o .nilS) (dnS dl) e)(he:¬e=0):aZ Tryz.prog 21 [.ptr 0 0,.str nm,.agg [.nilS,.nilS,.nilS]] [stB db (.buf 1 0 m m) ud o .nilS,dnS dl] fun r H'=>r = .tup [z75,.int .i64 e]∧H'=[stB db (.buf 1 0 m m) ud o .nilS,dnS dl]:=by
 refine cut1p ?_ (by simp) (by simp[z75]) p.rb;have c1:=fe p h;obtain⟨S,hS⟩:∃S,S=stB db (.buf 1 0 m m) ud o .nilS:=⟨_,rfl⟩;obtain⟨D,hD⟩:∃D,D=dnS dl:=⟨_,rfl⟩;rw[←hS,←hD]at c1 ⊢;refine aK tok Tryz.func21 rfl rfl ?_;refine wx ?_;simp -dsimp[Tryz.f21,ba];refine wcm (c1 _) ?_;rintro r H' ⟨rfl,rfl⟩;simp -dsimp[zT0,he,z75]
theorem app_err(p:StP db ud .nilS dl)(h:gb nm (stB db (.buf 1 0 m m) ud o .nilS) (dnS dl) e)(he:¬e=0):aZ Tryz.prog 9 [.ptr 0 0,.str nm,.nilS] [stB db (.buf 1 0 m m) ud o .nilS,dnS dl] fun r H'=>r = .int .i64 e∧H'=[stB db (.buf 1 0 m m) ud o .nilS,dnS dl]:=by
 refine cut1p ?_ (by simp) (by simp) p.rb;have c1:=fe p h;obtain⟨S,hS⟩:∃S,S=stB db (.buf 1 0 m m) ud o .nilS:=⟨_,rfl⟩;obtain⟨D,hD⟩:∃D,D=dnS dl:=⟨_,rfl⟩;rw[←hS,←hD]at c1 ⊢;refine aK tok Tryz.func9 rfl rfl ?_;refine wx ?_;simp -dsimp[Tryz.f9,ba];refine wcm (c1 _) ?_;rintro r H' ⟨rfl,rfl⟩;simp -dsimp[zT0,he]
end
end
end
end Go.Proofs.YtpedcgdgjoblkaaGreatDoor
