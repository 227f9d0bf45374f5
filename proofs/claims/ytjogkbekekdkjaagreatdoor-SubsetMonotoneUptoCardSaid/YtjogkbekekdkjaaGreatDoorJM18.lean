/- JM18: own texts of this seat, joined and shortened by pack4.py: OV, OW, DV, DW, CV, MK, Rd. -/
import Derived.Test.YtjogkbekekdkjaaGreatDoorJM15
import Derived.Test.YtjogkbekekdkjaaGreatDoorJM16
import Derived.Test.YtjogkbekekdkjaaGreatDoorJM17
set_option linter.unusedVariables false
set_option linter.unusedSimpArgs false
set_option maxRecDepth 100000
set_option maxHeartbeats 64000000
open Bool renaming and_eq_true→pC,not_eq_true→qc
open Int renaming eq_ofNat_of_zero_le→qy
open List renaming replicate→ou,getElem?_eq_getElem→ov,getElem_mem→ow,not_mem_nil→pA,drop_eq_getElem_cons→pB,mem_cons→pD,drop_of_length_le→pF,getElem?_append_left→pH,take_succ_eq_append_getElem→pJ,length_append→pK,append_nil→pL,getElem?_append_right→pM,drop_zero→pT,nil_append→pU,take_of_length_le→pX,append_assoc→pb,mem_of_mem_take→pi,cons_append→pn,set_append_right→pr,map_append→qB,mem_of_mem_drop→qJ,length_take→qO,filter_cons_of_pos→qU,filter_cons_of_neg→qV,map_cons→qW,getElem?_cons_succ→qg,all_cons→qk,foldl_cons→rF,map_nil→rQ,set_getElem_self→rn,map_set→rx
open Nat renaming le_refl→pI,le_trans→ph,zero_le→pv,add_assoc→qQ,mul_comm→rJ,sub_zero→ru,pow_succ→sP
namespace Go.Proofs.YtjogkbekekdkjaaGreatDoor
section
open Go Go.AM
structure TbS (t:Tb):Prop where
 ok:TbOk t
 sz:∀r∈t.rows,∀v∈r.vals,v.s.size≤maxLen
 few:t.rows.length≤8
theorem pr_cons{P:Rw→Rw→Bool}{R:List Rw}{i:Nat}(h:i<R.length):prL P (R.drop i)=(((R.drop (i+1)).filter (P R[i])).map fun s=>[R[i].id,s.id])++prL P (R.drop (i+1)):=by
 rw[pB h,prL]
theorem in_cons{P:Rw→Rw→Bool}{R:List Rw}{r:Rw}{k:Nat}(h:k<R.length):(((R.drop k).filter (P r)).map fun s=>[r.id,s.id])=(if P r R[k]=true then [[r.id,R[k].id]] else [])++(((R.drop (k+1)).filter (P r)).map fun s=>[r.id,s.id]):=by
 rw[pB h];by_cases hp:P r R[k]=true
 ·rw[qU hp,if_pos hp];rfl
 ·rw[qV hp,if_neg hp];rfl
theorem oclo_u(n:Int)(d:Od)(f2 g2:Bool)(b0 b2:B)(hl:d.l.length≤1000000)(hr:d.r.length≤1000000):
  aI Tryz.prog (.fn 191 [.ptr 1 0]) [.int .i64 n] [b0,B.cells [.lst 1 f2 (d.l.map au),.lst 1 g2 (d.r.map au)],b2] fun r H'=>r = .bool (odB n d)∧H'=[b0,B.cells [.lst 1 f2 (d.l.map au),.lst 1 g2 (d.r.map au)],b2]:=by
 have c:=validO_u n d f2 g2 hl hr;simp only[iV,L1]at c;simp only[aI,pn,pU];refine aK tok Tryz.func191 rfl rfl ?_;refine wx ?_;simp -dsimp[Tryz.f191,ou];refine cPx (c) (by simp) ?_;simp -dsimp[]
def ocB(d:Od)(f2 g2:Bool):B:=B.cells [.lst 1 f2 (d.l.map au),.lst 1 g2 (d.r.map au)]
theorem ocB_rb(n:Nat)(d:Od)(f2 g2:Bool):rbB n (ocB d f2 g2):=fun c hc=>by
 simp only[pD,pA,or_false]at hc
 rcases hc with rfl | rfl<;>simp[rb,rb1,au]
def tcB(t:Tb)(f g:Bool):B:=.cells [.str t.name,.lst 1 f (t.attrs.map V.str),.lst 2 g (t.rows.map aT)]
theorem iK(n:Nat)(t:Tb)(f g:Bool):rbB n (tcB t f g):=fun c hc=>by
 simp only[pD,pA,or_false]at hc
 rcases hc with rfl | rfl | rfl<;>simp[rb,rb1]
def rcB(r:Rw):B:=.cells [.int .i64 r.id,.lst 3 false (r.vals.map ac)]
theorem rcB_rb(n:Nat)(r:Rw):rbB n (rcB r):=fun c hc=>by
 simp only[pD,pA,or_false]at hc
 rcases hc with rfl | rfl<;>simp[rb,rb1]
theorem ochk_u(t:Tb)(d:Od)(f g f2 g2:Bool)(h:TbOk t)(hl:d.l.length≤1000000)(hr:d.r.length≤1000000)(hv:aQ t=0)(ho:odB t.attrs.length d=true):
  aZ Tryz.prog 190 [aF f g t,.fn 191 [.ptr 1 0]] [tcB t f g,ocB d f2 g2] fun r H'=>r = .int .i64 0∧H'=[tcB t f g,ocB d f2 g2]:=by
 have c1:=jg t f g h;rw[hv]at c1;have c2:=oclo_u t.attrs.length d f2 g2 (tcB t f g) (tcB t f g) hl hr;rw[ho]at c2;simp only[aF,LS,LR]at c1
 refine ip ?_ (by simp[rb,rb1]) ⟨pI _,fun bl hbl=>by
  simp only[pD,pA,or_false]at hbl
  rcases hbl with rfl | rfl
  ·exact iK _ _ _ _
  ·exact ocB_rb _ _ _ _⟩
 simp only[ocB,tcB]at c2 ⊢;refine aK tok Tryz.func190 rfl rfl ?_;refine wx ?_;simp -dsimp[Tryz.f190,ou,aF,LS,LR];refine cPx (c1) (by simp) ?_;simp -dsimp[];refine c2.mono ?_;rintro r H' ⟨rfl,rfl⟩;simp -dsimp[]
theorem violO_u(t:Tb)(d:Od)(f g f2 g2:Bool)(h:TbS t)(hl:d.l.length≤1000000)(hr:d.r.length≤1000000)(hv:aQ t=0)(ho:odB t.attrs.length d=true):aE Tryz.prog 131 [aF f g t,iV f2 g2 d] fun r=>r = .tup [LL false (prL (odP d) t.rows),.int .i64 0]:=by
 refine conP_LT ?_;have ct:=tbC hv;have c1:=ochk_u t d f g f2 g2 h.ok hl hr hv ho
 have hol:my t.attrs.length d.l∧my t.attrs.length d.r:=by
  unfold odB at ho;rw[pC]at ho;exact⟨ol_ats ho.1,ol_ats ho.2⟩
 simp only[aF,LR,LS,tcB,ocB]at c1;obtain⟨R,hR⟩:∃R,R=t.rows:=⟨_,rfl⟩;obtain⟨E,hE⟩:∃E,E=prL (odP d) R:=⟨_,rfl⟩
 have hR8:R.length≤8:=by rw[hR];exact h.few
 have hE64:E.length≤64:=by rw[hE];exact ph (la R) (sq8 hR8)
 have hlen:∀r∈R,r.vals.length=t.attrs.length:=by rw[hR];exact ct.len
 have htB:tcB t f g = .cells [.str t.name,.lst 1 f (t.attrs.map V.str),.lst 2 g (R.map aT)]:=by rw[hR];rfl
 rw[←hR]at c1 ⊢;rw[←hE]
 have hrb:∀o:List (List Int),∀bl∈[B.cells [.str t.name,.lst 1 f (t.attrs.map V.str),.lst 2 g (R.map aT)],B.cells [.lst 1 f2 (d.l.map au),.lst 1 g2 (d.r.map au)],B.buf 34 1 (o.map (L1 true)) false],rbB 3 bl:=fun o bl hbl=>by
  simp only[pD,pA,or_false]at hbl
  rcases hbl with rfl | rfl | rfl
  ·rw[←htB];exact iK _ _ _ _
  ·exact ocB_rb _ _ _ _
  ·exact LT_rb _ _ _
 have hrb2:∀(r:Rw) (o:List (List Int)),∀bl∈[B.cells [.str t.name,.lst 1 f (t.attrs.map V.str),.lst 2 g (R.map aT)],B.cells [.lst 1 f2 (d.l.map au),.lst 1 g2 (d.r.map au)],B.buf 34 1 (o.map (L1 true)) false,B.cells [.int .i64 r.id,.lst 3 false (r.vals.map ac)]],rbB 4 bl:=fun r o bl hbl=>by
  simp only[pD,pA,or_false]at hbl
  rcases hbl with rfl | rfl | rfl | rfl
  ·rw[←htB];exact iK _ _ _ _
  ·exact ocB_rb _ _ _ _
  ·exact LT_rb _ _ _
  ·exact rcB_rb _ _
 refine bf (aK (tkf 34) Tryz.func131 rfl rfl ?_);refine W_x (tkf 34) mixed ?_;simp -dsimp[Tryz.f131,ou,aF,iV,LR,LS,hR.symm,L1,bo];refine aI.mono (K:=fun r H'=>r = .int .i64 0∧H'=[B.cells [.str t.name,.lst 1 f (t.attrs.map V.str),.lst 2 g (R.map aT)],B.cells [.lst 1 f2 (d.l.map au),.lst 1 g2 (d.r.map au)]]) c1 ?_;rintro r H' ⟨rfl,rfl⟩;simp -dsimp[L1,bo];refine aR (iR 34 1 [7] (by simp) (W_loopM 51 0x7ffffffe00b80 (by simp[mB]<;>rfl) (σ:=Nat×List (List Int)) (fun p=>p.2++prL (odP d) (R.drop p.1)=E) (fun p=>R.length-p.1) (fun p=>[(21,.int .i64 p.1),(7,.buf 2 0 p.2.length p.2.length)]) (fun p=>[B.cells [.str t.name,.lst 1 f (t.attrs.map V.str),.lst 2 g (R.map aT)],B.cells [.lst 1 f2 (d.l.map au),.lst 1 g2 (d.r.map au)],B.buf 34 1 (p.2.map (L1 true)) false]) (0,[]) (by rw[hE];rfl) (by simp) (by simp) (by simp) ?_));rintro⟨i,out⟩ hx N Q hN hQ;simp only at hx;by_cases hb:i<R.length
 ·rw[pr_cons hb]at hx;have hri:=hlen _ (ow hb);obtain⟨r,hre⟩:∃r,r=R[i]:=⟨_,rfl⟩;rw[←hre]at hx hri
  have hdp:∀x∈(R.map aT).drop (i+1),AM.Pure x:=fun x hx=>by
   obtain⟨y,_,rfl⟩:=List.mem_map.1 (qJ hx);exact encRw_pure y
  have htk:(R.map aT).take R.length=R.map aT:=pX (by simp);refine W_x (tkf 34) mixed ?_;simp -dsimp[hb,hre.symm,aT,LV,aa i (by omega),show(0:Int)≤(i:Int)+1 by omega,show i+1≤R.length by omega,htk,L1,bo];refine aR (W_loopM 50 0x3ffff00000880 (by simp[mB]<;>rfl) (σ:=Nat×List (List Int)) (fun p=>p.2++((((R.drop (i+1+p.1)).filter (odP d r)).map fun s=>[r.id,s.id])++prL (odP d) (R.drop (i+1)))=E) (fun p=>R.length-p.1) (fun p=>[(32,.int .i64 p.1),(7,.buf 2 0 p.2.length p.2.length)]) (fun p=>[B.cells [.str t.name,.lst 1 f (t.attrs.map V.str),.lst 2 g (R.map aT)],B.cells [.lst 1 f2 (d.l.map au),.lst 1 g2 (d.r.map au)],B.buf 34 1 (p.2.map (L1 true)) false,B.cells [.int .i64 r.id,.lst 3 false (r.vals.map ac)]]) (0,out) hx (by simp) (by simp) (by simp) ?_);rintro⟨k,o2⟩ hx2 N2 Q2 hN2 hQ2;simp only at hx2;by_cases hkb:k<R.length-(i+1)
  ·have hkR:i+1+k<R.length:=by omega
   rw[in_cons hkR]at hx2;have hrk:=hlen _ (ow hkR);obtain⟨s,hse⟩:∃s,s=R[i+1+k]:=⟨_,rfl⟩;rw[←hse]at hx2 hrk;have c4:=kind_u r s d f2 g2 t.attrs.length hri hrk hl hr hol.1 hol.2;simp only[aT,LV,iV,L1]at c4
   have ho2:o2.length≤64:=by rw[←hx2]at hE64;simp only[pK]at hE64;omega
   by_cases hq:kindO d r s=0
   ·rw[hq]at c4;rw[if_neg (by simp[odP,hq]),pU]at hx2;refine W_x (tkf 34) mixed ?_;simp -dsimp[hkb,hkR,hse.symm,aT,LV,L1,bo];refine cPx (c4) (by simp) ?_;simp -dsimp[aa k (by omega),L1,bo];refine hN2 (k+1,o2) _ _ hx2 (by simp only;omega) (by simp) ⟨[B.cells [.int .i64 s.id,.lst 3 false (s.vals.map ac)]],by simp⟩ (by simp;exact hdp) (hrb2 _ _)
   ·rw[if_pos (by simp[odP,hq])]at hx2;refine W_x (tkf 34) mixed ?_;simp -dsimp[hkb,hkR,hse.symm,aT,LV,L1,bo];refine cPx (c4) (by simp) ?_;simp -dsimp[hq,mI o2.length (by omega),eJ o2.length (by omega),aa k (by omega),L1,bo];refine hN2 (k+1,o2++[[r.id,s.id]]) _ _ (by rw[←hx2];simp[qQ]) (by simp only;omega) (by simp) ⟨[B.cells [.int .i64 s.id,.lst 3 false (s.vals.map ac)]],by simp[au,L1]⟩ (by simp;exact hdp) (hrb2 _ _)
  ·rw[pF (show R.length≤i+1+k by omega)]at hx2;refine W_x (tkf 34) mixed ?_;simp -dsimp[hkb,L1,bo];refine hQ2 _ _ _ ?_;simp -dsimp[aa i (by omega),L1,bo];refine hN (i+1,o2) _ _ (by simpa using hx2) (by simp only;omega) (by simp) ⟨[B.cells [.int .i64 r.id,.lst 3 false (r.vals.map ac)]],by simp⟩ (by simp) (hrb _)
 ·rw[pF (show R.length≤i by omega),prL,pL]at hx;subst hx;refine gY 2 [7] rfl (by simp) ?_;refine W_x (tkf 34) mixed ?_;simp -dsimp[hb,L1,bo];refine hQ _ _ _ ?_;simp -dsimp[LT,L1,bo]
  skip
theorem satisfied_u(al:List At)(rs:List Rw)(f g:Bool)(h:∀a∈al,AtOk rs a)(hl:rs.length≤1000000)(ha:al.length≤1000000):aE Tryz.prog 242 [LR g rs,LA f al] fun r=>r = .bool (al.all (atS rs)):=by
 obtain⟨E,hE⟩:∃E,E=al.all (atS rs):=⟨_,rfl⟩;rw[←hE];refine sPx Tryz.func242 rfl rfl ?_;simp -dsimp[Tryz.f242,ou,LA,LR];refine aR (W_loopM 45 0x1ffffffff9d0 (by simp[mB]<;>rfl) (σ:=Nat) (fun i=>(al.drop i).all (atS rs)=E) (fun i=>al.length-i) (fun i=>[(11,.int .i64 i)]) (fun _=>[]) 0 (by rw[hE,pT]) (by simp) (by simp) (by simp) ?_);intro i hx N Q hN hQ;by_cases hb:i<al.length
 ·rw[pB hb,qk]at hx;have hk:=h _ (ow hb);obtain⟨a,hae⟩:∃a,a=al[i]:=⟨_,rfl⟩;rw[←hae]at hx hk;have c1:=get_u a.l rs g hk.l hl;have c2:=get_u a.r rs g hk.r hl;have c3:=lP (tmV rs a.l) (tmV rs a.r);simp only[dt,ac,LR]at c1 c2 c3;have h1:=hk.lo;have h2:=hk.hi;obtain⟨q,hq⟩:∃q,q=kC (tmV rs a.l) (tmV rs a.r):=⟨_,rfl⟩;unfold atS at hx;rw[←hq]at c3 hx
  have fin:∀b:Bool,(b&&(al.drop (i+1)).all (atS rs))=E→(b=true→(al.drop (i+1)).all (atS rs)=E)∧(b=false→E=false):=fun b hb2=>by
   cases b
   ·exact⟨fun h=>(by cases h),fun _=>(by simpa using hb2.symm)⟩
   ·exact⟨fun _=>(by simpa using hb2),fun h=>(by cases h)⟩
  by_cases e1:a.op=1
  ·rw[if_pos e1]at hx;obtain⟨f1,f2⟩:=fin _ hx;by_cases e0:q=0
   ·refine wx ?_;simp -dsimp[hb,hae.symm,du,e1];refine .inr ⟨bN (by kernel_rfl),?_⟩;refine ar _ (aW (c1) (by simp)) ?_;simp -dsimp[];refine ar _ (aW (c2) (by simp)) ?_;simp -dsimp[];refine ar _ (aW (c3) (by simp)) ?_;simp -dsimp[e1,e0,aa i (by omega)];refine hN (i+1) _ _ (f1 (by simp[e0])) (by omega) (by simp) ⟨_,rfl⟩ (by simp) (by simp)
   ·refine wx ?_;simp -dsimp[hb,hae.symm,du,e1];refine .inr ⟨bN (by kernel_rfl),?_⟩;refine ar _ (aW (c1) (by simp)) ?_;simp -dsimp[];refine ar _ (aW (c2) (by simp)) ?_;simp -dsimp[];refine ar _ (aW (c3) (by simp)) ?_;simp -dsimp[e1,e0];refine hQ _ _ _ ?_;simp -dsimp[];rw[f2 (by simp[e0])]
  rw[if_neg e1]at hx;by_cases e2:a.op=2
  ·rw[if_pos e2]at hx;obtain⟨f1,f2⟩:=fin _ hx;by_cases e0:q=0
   ·refine wx ?_;simp -dsimp[hb,hae.symm,du,e2];refine .inr ⟨bN (by kernel_rfl),?_⟩;refine ar _ (aW (c1) (by simp)) ?_;simp -dsimp[];refine ar _ (aW (c2) (by simp)) ?_;simp -dsimp[];refine ar _ (aW (c3) (by simp)) ?_;simp -dsimp[e2,e0];refine hQ _ _ _ ?_;simp -dsimp[];rw[f2 (by simp[e0])]
   ·refine wx ?_;simp -dsimp[hb,hae.symm,du,e2];refine .inr ⟨bN (by kernel_rfl),?_⟩;refine ar _ (aW (c1) (by simp)) ?_;simp -dsimp[];refine ar _ (aW (c2) (by simp)) ?_;simp -dsimp[];refine ar _ (aW (c3) (by simp)) ?_;simp -dsimp[e2,e0,aa i (by omega)];refine hN (i+1) _ _ (f1 (by simp[e0])) (by omega) (by simp) ⟨_,rfl⟩ (by simp) (by simp)
  rw[if_neg e2]at hx;by_cases e3:a.op=3
  ·rw[if_pos e3]at hx;obtain⟨f1,f2⟩:=fin _ hx;by_cases e0:q<0
   ·refine wx ?_;simp -dsimp[hb,hae.symm,du,e3];refine .inr ⟨bN (by kernel_rfl),?_⟩;refine ar _ (aW (c1) (by simp)) ?_;simp -dsimp[];refine ar _ (aW (c2) (by simp)) ?_;simp -dsimp[];refine ar _ (aW (c3) (by simp)) ?_;simp -dsimp[e3,e0,aa i (by omega)];refine hN (i+1) _ _ (f1 (by simp[e0])) (by omega) (by simp) ⟨_,rfl⟩ (by simp) (by simp)
   ·refine wx ?_;simp -dsimp[hb,hae.symm,du,e3];refine .inr ⟨bN (by kernel_rfl),?_⟩;refine ar _ (aW (c1) (by simp)) ?_;simp -dsimp[];refine ar _ (aW (c2) (by simp)) ?_;simp -dsimp[];refine ar _ (aW (c3) (by simp)) ?_;simp -dsimp[e3,e0];refine hQ _ _ _ ?_;simp -dsimp[];rw[f2 (by simp[e0])]
  rw[if_neg e3]at hx
  have e4:a.op=4:=by omega
  obtain⟨f1,f2⟩:=fin _ hx;by_cases e0:q≤0
  ·refine wx ?_;simp -dsimp[hb,hae.symm,du,e4];refine .inr ⟨bN (by kernel_rfl),?_⟩;refine ar _ (aW (c1) (by simp)) ?_;simp -dsimp[];refine ar _ (aW (c2) (by simp)) ?_;simp -dsimp[];refine ar _ (aW (c3) (by simp)) ?_;simp -dsimp[e4,e0,aa i (by omega)];refine hN (i+1) _ _ (f1 (by simp[e0])) (by omega) (by simp) ⟨_,rfl⟩ (by simp) (by simp)
  ·refine wx ?_;simp -dsimp[hb,hae.symm,du,e4];refine .inr ⟨bN (by kernel_rfl),?_⟩;refine ar _ (aW (c1) (by simp)) ?_;simp -dsimp[];refine ar _ (aW (c2) (by simp)) ?_;simp -dsimp[];refine ar _ (aW (c3) (by simp)) ?_;simp -dsimp[e4,e0];refine hQ _ _ _ ?_;simp -dsimp[];rw[f2 (by simp[e0])]
 ·rw[pF (by omega)]at hx;refine wx ?_;simp -dsimp[hb];refine hQ _ _ _ ?_;simp -dsimp[];simpa using hx
theorem same_u(H:List B)(j:Nat)(r:Rw)(hj:H[j]?=some (.cells [.int .i64 r.id,.lst 3 false (r.vals.map ac)]))(hH:∀bl∈H,rbB H.length bl)(x:Rw):
  aI Tryz.prog (.fn 244 [.ptr j 0]) [aT x] H fun a H'=>a = .bool (x.id == r.id)∧H'=H:=by
 have hlt:=aB hj
 have hj2:∀y,(H++[y])[j]?=some (.cells [.int .i64 r.id,.lst 3 false (r.vals.map ac)]):=fun y=>by rw[pH hlt];exact hj
 simp only[aI,pn,pU];refine ip ?_ (by simp[rb,rb1]) ⟨pI _,hH⟩;refine aK tok Tryz.func244 rfl rfl ?_;refine wx ?_;simp -dsimp[Tryz.f244,ou,aT,LV,hj2]
theorem conH_lf{P:Program}{f:FuncId}{args args':List V}{H:List B}{K:V→List B→Prop}(h:aZ P f args' H K)(hl:LfL args args'):aZ P f args H K :=
 ⟨h.1,fun s vals hA hg hsz hrel=>h.2 s vals hA hg (by rw[hsz,hl.len]) (fun i a u ha hu=>by
  have hlt:i<args.length:=by have:=aB ha;rw[hl.len];exact this
  exact mU (hrel i _ u (ov hlt) hu) (hl.at_ i _ a (ov hlt) ha))⟩
theorem conH_frz{P:Program}{f:FuncId}{args args':List V}{H:List B}{K:V→List B→Prop}(k:Nat){e z:Nat}{xs:List V}{fz:Bool}(hk:H[k]?=some (.buf e z xs fz))(h:aZ P f args' (H.set k (.buf e z xs true)) K)(hr:fP (.buf k 0 xs.length xs.length) (.lst z false xs) args args'):aZ P f args H K:=by
 refine⟨h.1,fun s vals hA hg hsz hrel=>?_⟩;obtain⟨rfl,hZ⟩:=hA;obtain⟨p1,p2,_⟩:=lD hg hk;have hl:=hr.len
 refine(h.2 (s.frz k (.buf e z xs true)) vals ⟨rfl,hZ.step p2⟩ p1 (by omega) (fun i b u hb hu=>?_)).mono fun e' w' ⟨u,s',r,a1,a2,a3,a4,a5,a6⟩=>⟨u,s',r,a1,a2,a3,p2.trans a4,a5,a6⟩
 have hx:args[i]?=some (args[i]'(by have:=aB hb;omega)):=ov _;exact nO hg hk (hrel i _ u hx hu) (hr.at_ i _ b hx hb)
def Back(t:Tb)(d:Dn)(fv:V)(K:List (List Int)→List B)(m:Nat):Prop :=
 ∀(X:List B),(∀bl∈X,rbB (m+X.length) bl)→∀(rs:List Rw) (fl:Bool) (o:List (List Int)),rs.length=d.vars.toNat→(∀r∈rs,r∈t.rows)→o.length<20000→(∀l∈o,l.length=d.vars.toNat)→aI Tryz.prog fv [LR fl rs] (K o++X) fun r H'=>r = .bool true∧H'=K (kG o (srt (dl rs)))++X
theorem app0{J:List B}{n:Nat}(h:J.length=n):∀x l,(J++x::l)[n]?=some x:=fun x l=>by subst h;simp
theorem app1{J:List B}{n:Nat}(h:J.length=n):∀y x l,(J++y::x::l)[n+1]?=some x:=fun y x l=>by subst h;rw[pM (by omega)];simp
theorem app2{J:List B}{n:Nat}(h:J.length=n):∀z y x l,(J++z::y::x::l)[n+2]?=some x:=fun z y x l=>by subst h;rw[pM (by omega)];simp
theorem rows_rb2(n:Nat)(e:Nat)(ms:List Rw)(fz:Bool):rbB n (.buf e 2 (ms.map aT) fz):=by
 intro x hx;obtain⟨y,_,rfl⟩:=List.mem_map.1 hx;intro c hc;simp only[aT,V.cells,pD,pA,or_false]at hc
 rcases hc with rfl | rfl<;>simp[rb,rb1,LV]
theorem app3{J:List B}{n:Nat}(h:J.length=n):∀w z y x l,(J++w::z::y::x::l)[n+3]?=some x:=fun w z y x l=>by subst h;rw[pM (by omega)];simp
theorem set3{J:List B}{n:Nat}(h:J.length=n):∀a b c x y,(J++[a,b,c,x]).set (n+3) y=J++[a,b,c,y]:=fun a b c x y=>by subst h;rw[pr _ _ (by omega)];simp
theorem rbM12{n m:Nat}(h:n≤m){v:V}(hv:rb1 n v):rb1 m v:=by
 cases v<;>simp only[rb1]at hv ⊢<;>first | exact hv | omega | trivial
theorem rbM2{n m:Nat}(h:n≤m){v:V}(hv:rb n v):rb m v:=by
 cases v<;>simp only[rb]at hv ⊢<;>first | exact rbM12 h hv | exact fun c hc=>rbM12 h (hv c hc) | trivial
theorem rbB_le2{n m:Nat}(h:n≤m){bl:B}(hb:rbB n bl):rbB m bl:=by
 cases bl with
 | cells cs=>exact fun c hc=>rbM2 h (hb c hc)
 | map kk es=>exact fun p hp=>⟨rbM2 h (hb p hp).1,rbM2 h (hb p hp).2⟩
 | buf e z xs fz=>exact fun x hx c hc=>rbM2 h (hb x hx c hc)
theorem rbs_app2{H G:List B}(hH:∀bl∈H,rbB H.length bl)(hG:∀bl∈G,rbB (H.length+G.length) bl):∀bl∈H++G,rbB (H++G).length bl:=fun bl hb=>by
 rw[pK]
 rcases List.mem_append.1 hb with h | h
 ·exact rbB_le2 (by omega) (hH bl h)
 ·exact hG bl h
theorem kz{J X:List B}{m:Nat}(hl:J.length=m)(hJ:∀bl∈J,rbB m bl)(hX:∀bl∈X,rbB (m+X.length) bl):∀bl∈J++X,rbB (J++X).length bl:=by
 subst hl;exact rbs_app2 hJ hX
def dcB(d:Dn)(f:Bool):B:=.cells [.int .i64 d.vars,.lst 11 f (d.atoms.map du)]
theorem dcB_rb(n:Nat)(d:Dn)(f:Bool):rbB n (dcB d f):=fun c hc=>by
 simp only[pD,pA,or_false]at hc
 rcases hc with rfl | rfl<;>simp[rb,rb1]
theorem visit_u(t:Tb)(d:Dn)(f g f2:Bool)(fv:V)(K:List (List Int)→List B)(m:Nat)(hKl:∀o,(K o).length=m)(hKr:∀o,∀bl∈K o,rbB m bl)(hfv:rb m fv)(hn:t.rows.length≤8)(ha:d.atoms.length≤1000000)
  (hat:∀rs,rs.length=d.vars.toNat→(∀r∈rs,r∈t.rows)→∀a∈d.atoms,AtOk rs a) (hv1:1≤d.vars) (hv3:d.vars≤3) (hB:Back t d fv K m):
  ∀(k:Nat) (p:List Rw) (X:List B) (o:List (List Int)) (fl:Bool),k+p.length=d.vars.toNat→(∀r∈p,r∈t.rows)→(∀bl∈X,rbB (m+X.length) bl)→o.length+t.rows.length^k<20000→(∀l∈o,l.length=d.vars.toNat)→
   aZ Tryz.prog 194 [aF f g t,gn f2 d,LR fl p,fv] (K o++X) fun r H'=>r = .bool true∧H'=K (jL d t.rows k p o)++X:=by
 intro k
 induction k with
 | zero =>
  intro p X o fl hk hp hX ho hoL
  have hkp:p.length=d.vars.toNat:=by omega
  have hpl:(p.length:Int)=d.vars:=by omega
  have cs:=satisfied_u d.atoms p f2 fl (hat p hkp hp) (by omega) ha
  have hXX:∀bl∈X++[tcB t f g,dcB d f2],rbB (m+(X++[tcB t f g,dcB d f2]).length) bl:=fun bl hbl=>by
   rcases List.mem_append.1 hbl with h | h
   ·exact rbB_le2 (by simp<;>omega) (hX bl h)
   ·simp only[pD,pA,or_false]at h
    rcases h with rfl | rfl
    ·exact iK _ _ _ _
    ·exact dcB_rb _ _ _
  have hb:=hB _ hXX p fl o hkp hp (by omega) hoL;rw[←pb,←pb]at hb
  have hJl:(K o++X).length=m+X.length:=by rw[pK,hKl]
  refine ip ?_ (by simp[rb,rb1]) ⟨by simp[hKl],kz (hKl _) (hKr _) hX⟩;unfold jL stV;obtain⟨J,hJ⟩:∃J,J=K o++X:=⟨_,rfl⟩;rw[←hJ]at hb hJl ⊢;obtain⟨n,hnn⟩:∃n,n=m+X.length:=⟨_,rfl⟩;rw[←hnn]at hJl;have g0:=app0 hJl;have g1:=app1 hJl;simp only[LR,LA]at cs hb;simp only[tcB,dcB]at hb
  cases hs:allS d p with
  | false =>
   rw[show d.atoms.all (atS p)=false from hs]at cs;rw[if_neg (by simp)];refine aK tok Tryz.func194 rfl rfl ?_;refine wx ?_;simp -dsimp[Tryz.f194,ou,aF,LR,LS,gn,LA,hpl,hJl,g0,g1];refine cPx (cs) (by simp) ?_;simp -dsimp[];exact⟨[tcB t f g,dcB d f2],by rw[hJ,pb];rfl⟩
  | true =>
   rw[show d.atoms.all (atS p)=true from hs]at cs;rw[if_pos rfl];refine aK tok Tryz.func194 rfl rfl ?_;refine wx ?_;simp -dsimp[Tryz.f194,ou,aF,LR,LS,gn,LA,hpl,hJl,g0,g1];refine cPx (cs) (by simp) ?_;simp -dsimp[];refine hb.mono ?_;rintro r H' ⟨rfl,rfl⟩;simp -dsimp[]
   skip
 | succ k ih =>
  intro p X o fl hk hp hX ho hoL
  have hpn:¬(p.length:Int)=d.vars:=by omega
  have hpl:p.length≤3:=by omega
  obtain⟨E,hE⟩:∃E,E=jL d t.rows (k+1) p o:=⟨_,rfl⟩;rw[←hE];unfold jL at hE;obtain⟨R,hR⟩:∃R,R=t.rows:=⟨_,rfl⟩
  have htB:tcB t f g = .cells [.str t.name,.lst 1 f (t.attrs.map V.str),.lst 2 g (R.map aT)]:=by rw[hR];rfl
  rw[←hR]at hE hn;obtain⟨n,hnn⟩:∃n,n=m+X.length:=⟨_,rfl⟩;refine ip ?_ (by simp[rb,rb1]) ⟨by simp[hKl],kz (hKl _) (hKr _) hX⟩
  obtain⟨J,hJ⟩:∃J:List (List Int)→List B,J=fun o=>K o++X:=⟨_,rfl⟩
  have hJo:∀o,K o++X=J o:=fun o=>by rw[hJ]
  have hJl:∀o,(J o).length=n:=fun o=>by rw[←hJo,pK,hKl,hnn]
  have hJr:∀o,∀bl∈J o,rbB n bl:=fun o=>by rw[←hJl o,←hJo];exact kz (hKl _) (hKr _) hX
  have hfn:rb n fv:=rbM2 (by omega) hfv;have hf2:rb (n+2) fv:=rbM2 (by omega) hfn;rw[hJo,hJo]
  have g0:=fun o=>app0 (hJl o)
  have g1:=fun o=>app1 (hJl o)
  have g2:=fun o=>app2 (hJl o)
  obtain⟨tc,htc⟩:∃tc,tc=B.cells [.str t.name,.lst 1 f (t.attrs.map V.str),.lst 2 g (R.map aT)]:=⟨_,rfl⟩;obtain⟨dc,hdc⟩:∃dc,dc=B.cells [.int .i64 d.vars,.lst 11 f2 (d.atoms.map du)]:=⟨_,rfl⟩
  have htr:∀n,rbB n tc:=fun n=>by rw[htc,←htB];exact iK _ _ _ _
  have hdr:∀n,rbB n dc:=fun n=>by rw[hdc];exact dcB_rb _ _ _
  have hrb2:∀o,∀bl∈J o++[tc,dc],rbB (J o++[tc,dc]).length bl:=fun o=>kz (hJl o) (hJr o) (fun bl hbl=>by
   simp only[pD,pA,or_false]at hbl
   rcases hbl with rfl | rfl
   ·exact htr _
   ·exact hdr _)
  have hrb3:∀o r,∀bl∈J o++[tc,dc,rcB r],rbB (J o++[tc,dc,rcB r]).length bl:=fun o r=>kz (hJl o) (hJr o) (fun bl hbl=>by
   simp only[pD,pA,or_false]at hbl
   rcases hbl with rfl | rfl | rfl
   ·exact htr _
   ·exact hdr _
   ·exact rcB_rb _ _)
  refine aK tok Tryz.func194 rfl rfl ?_;refine wx ?_;simp -dsimp[Tryz.f194,ou,aF,LR,LS,gn,LA,hpn,hJl,g0,g1,hR.symm];rw[←htc,←hdc]
  have g3:=fun o=>app3 (hJl o)
  have hset:=fun o=>set3 (hJl o)
  rw[←hR]at ho ih
  have ho':o.length+(R.length-0)*R.length^k<20000:=by rw[ru,rJ,←sP];exact ho
  have hpk:0≤R.length^k:=pv _;refine aR (W_loopM 47 0x7fffe0000500 (by simp[mB]<;>rfl) (σ:=Nat×List (List Int)) (fun q=>(R.drop q.1).foldl (fun o r=>if jV p r then o else jL d R k (p++[r]) o) q.2=E∧q.2.length+(R.length-q.1)*R.length^k<20000∧∀l∈q.2,l.length=d.vars.toNat) (fun q=>R.length-q.1) (fun q=>[(29,.int .i64 q.1)]) (fun q=>J q.2++[tc,dc]) (0,o) ⟨hE.symm,ho',hoL⟩ (by simp) (by simp) (by simp[hJl]) ?_);rintro⟨i,o2⟩ ⟨hx,hlt,hL2⟩ N Q hN hQ;simp only at hx hlt hL2;by_cases hb:i<R.length
  ·rw[pB hb,rF]at hx;have hrm:=ow hb;obtain⟨r,hre⟩:∃r,r=R[i]:=⟨_,rfl⟩;rw[←hre]at hx hrm
   have hmul:(R.length-i)*R.length^k=(R.length-(i+1))*R.length^k+R.length^k:=by rw[show R.length-i=(R.length-(i+1))+1 by omega,Nat.succ_mul]
   rw[hmul]at hlt;have hc:=cont_R (J o2++[tc,dc,rcB r]) (.fn 244 [.ptr (n+2) 0]) (fun x=>x.id == r.id) p fl (by omega) (hrb3 o2 r) (by simp[rb,rb1,hJl]) (fun x _=>same_u _ _ r (g2 o2 tc dc (rcB r) []) (hrb3 o2 r) x);rw[show(p.any fun x=>x.id == r.id)=jV p r from rfl]at hc;simp only[LR,rcB]at hc
   cases hu:jV p r with
   | true =>
    rw[hu]at hc hx;rw[if_pos rfl]at hx;refine wx ?_;simp -dsimp[hb,hre.symm,aT,LV,hJl,g0,g1];refine aI.mono (K:=fun r' H'=>r' = .bool true∧H'=J o2++[tc,dc,B.cells [.int .i64 r.id,.lst 3 false (r.vals.map ac)]]) hc ?_;rintro r' H' ⟨rfl,rfl⟩;simp -dsimp[aa i (by omega)];refine hN (i+1,o2) _ _ ⟨hx,by simp only;omega,hL2⟩ (by simp only;omega) (by simp) ⟨[B.cells [.int .i64 r.id,.lst 3 false (r.vals.map ac)]],by simp⟩ (by simp[hJl];exact hf2) (hrb2 _)
   | false =>
    rw[hu]at hc hx;rw[if_neg (by simp)]at hx;obtain⟨o3,ho3⟩:∃o3,o3=jL d R k (p++[r]) o2:=⟨_,rfl⟩;have hvl:=kE (d:=d) (R:=R) k (p++[r]) o2
    have hL3:∀l∈o3,l.length=d.vars.toNat:=fun l hl=>by
     rw[ho3]at hl
     rcases(lO _ _ _ _).1 hl with h | ⟨q,h1,_,_,h4⟩
     ·exact hL2 l h
     ·rw[h4,og,gv,pK,pK,h1];simp;omega
    rw[←ho3]at hx hvl
    have hge:o2.length+R.length^k<20000:=by omega
    have hv:=ih (p++[r]) (X++[tc,dc,rcB r,.buf 80 2 ((p++[r]).map aT) true]) o2 false (by simp;omega) (fun x hx=>by
     rcases List.mem_append.1 hx with h | h
     ·rw[hR];exact hp x h
     ·simp at h;subst h;exact hrm) (fun bl hbl=>by
     rcases List.mem_append.1 hbl with h | h
     ·exact rbB_le2 (by simp<;>omega) (hX bl h)
     ·simp only[pD,pA,or_false]at h
      rcases h with rfl | rfl | rfl | rfl
      ·exact htr _
      ·exact hdr _
      ·exact rcB_rb _ _
      ·exact rows_rb2 _ _ _ _) hge hL2
    rw[←ho3,←pb,←pb,hJo,hJo]at hv;have hset2:=hset o2 tc dc (rcB r) (.buf 80 2 ((p++[r]).map aT) false) (.buf 80 2 ((p++[r]).map aT) true);rw[←hset2]at hv;have hw:=conH_frz (args:=[aF f g t,gn f2 d,.buf (n+3) 0 (p.length+1) (p.length+1),fv]) (n+3) (g3 o2 tc dc (rcB r) (.buf 80 2 ((p++[r]).map aT) false) []) hv (by simp[LR]);have cc:=cloneO_R p fl (by omega);simp only[aF,LR,LS,gn,LA,←hR,rcB]at hw cc;refine wx ?_;simp -dsimp[hb,hre.symm,aT,LV,hJl,g0,g1];refine aI.mono (K:=fun r' H'=>r' = .bool false∧H'=J o2++[tc,dc,B.cells [.int .i64 r.id,.lst 3 false (r.vals.map ac)]]) hc ?_;rintro r' H' ⟨rfl,rfl⟩;simp -dsimp[]
    have hset3:∀o b x y,(J o++[tc,dc,b,x]).set (n+3) y=J o++[tc,dc,b,y]:=fun o b x y=>hset o tc dc b x y
    refine aR (ao tok mixed [3,6,8] [(0,[1,2]),(1,[1,2]),(4,[0]),(5,[0])] [(.buf (n+3) 0 p.length p.length,J o2++[tc,dc,B.cells [.int .i64 r.id,.lst 3 false (r.vals.map ac)],.buf 80 2 (p.map aT) false]),(.bool true,J o3++[tc,dc,B.cells [.int .i64 r.id,.lst 3 false (r.vals.map ac)],.buf 80 2 ((p++[r]).map aT) true])] (by kernel_rfl) fun C K hC hK=>?_);simp -implicitDefEqProofs [htc,hdc,hJl,g0,g1,g2,g3,hset,aT,LV,capRw p.length (by omega),eJ p.length (by omega)];simp only[htc,hdc,qB,qW,rQ,aT,LV]at hw;refine⟨⟨hC _ _ _ _ ?_,hC _ _ _ _ ?_⟩,hK _ _ ?_⟩
    ·refine(mJ cc (by simp)).mono ?_;rintro r' H' ⟨e,z,xs,rfl,rfl,_,rfl,rfl,rfl⟩;exact⟨by simp[hJl],by simp⟩
    ·simp only[aI,pL];exact hw
    ·simp -dsimp[aa i (by omega)];refine hN (i+1,o3) _ _ ⟨hx,by simp only;omega,hL3⟩ (by simp only;omega) (by simp) ⟨[B.cells [.int .i64 r.id,.lst 3 false (r.vals.map ac)],.buf 80 2 ((p++[r]).map aT) true],by simp[htc,hdc,aT,LV]⟩ (by simp[hJl];exact hf2) (hrb2 _)
  ·rw[pF (show R.length≤i by omega)]at hx;have hx2:o2=E:=hx;subst hx2;refine wx ?_;simp -dsimp[hb];refine hQ _ _ _ ?_;simp -dsimp[]
section
def gp(l:List Int):V:=.agg [.int .i64 (l.getD 0 0),.int .i64 (l.getD 1 0),.int .i64 (l.getD 2 0)]
def mK(o:List (List Int)):List (V×V):=o.map fun l=>(gp l,.bool true)
theorem nI(o:List (List Int))(l:List Int):mK (o++[l])=mK o++[(gp l,.bool true)]:=by simp[mK]
theorem key3_eq{a b:List Int}(h:a.length=b.length)(h3:a.length≤3):ah (gp a) (gp b)=(a == b):=by
 match a,b,h,h3 with
 | [],[],_,_=>rfl
 | [x],[y],_,_=>simp[gp,ah,fN]
 | [x,x2],[y,y2],_,_=>simp[gp,ah,fN]
 | [x,x2,x3],[y,y2,y3],_,_=>simp[gp,ah,fN]
theorem findK_no{m:Nat}{x:List Int}(hx:x.length=m)(hm:m≤3):∀(o:List (List Int)) (i:Nat),(∀l∈o,l.length=m)→x∉o→dS (gp x) (mK o) i=none
 | [],_,_,_=>rfl
 | l::o,i,h,hn=>by
  have h1:=key3_eq (a:=x) (b:=l) (by rw[hx,h l (by simp)]) (by omega)
  have hne:¬x=l:=fun e=>hn (by rw[e];simp)
  have h2:(x == l)=false:=by simpa using hne
  show(if ah (gp x) (gp l)=true then some (i,V.bool true) else dS (gp x) (mK o) (i+1))=none;rw[h1,h2,if_neg (by simp)];exact findK_no hx hm o (i+1) (fun l' hl=>h l' (by simp[hl])) (fun e=>hn (by simp[e]))
theorem findK_yes{m:Nat}{x:List Int}(hx:x.length=m)(hm:m≤3):∀(o:List (List Int)) (i:Nat),(∀l∈o,l.length=m)→x∈o→∃j,dS (gp x) (mK o) i=some (j,.bool true)∧i≤j∧o[j-i]?=some x
 | [],_,_,h=>by cases h
 | l::o,i,h,hn=>by
  have h1:=key3_eq (a:=x) (b:=l) (by rw[hx,h l (by simp)]) (by omega);by_cases he:x=l
  ·subst he;refine⟨i,?_,pI _,by simp⟩;show(if ah (gp x) (gp x)=true then some (i,V.bool true) else dS (gp x) (mK o) (i+1))=_;rw[h1,beq_self_eq_true,if_pos rfl]
  ·have h2:(x == l)=false:=by simpa using he
   obtain⟨j,hj,hij,hg⟩:=findK_yes hx hm o (i+1) (fun l' hl=>h l' (by simp[hl])) (by
    rcases List.mem_cons.1 hn with e | e
    ·exact absurd e he
    ·exact e)
   refine⟨j,?_,by omega,?_⟩
   ·show(if ah (gp x) (gp l)=true then some (i,V.bool true) else dS (gp x) (mK o) (i+1))=_;rw[h1,h2,if_neg (by simp)];exact hj
   ·rw[show j-i=(j-(i+1))+1 by omega,qg];exact hg
theorem mK_rb(n:Nat)(kk:KK)(o:List (List Int)):rbB n (.map kk (mK o)):=fun p hp=>by
 obtain⟨x,_,rfl⟩:=List.mem_map.1 hp;refine⟨?_,by simp[rb,rb1]⟩;intro c hc;simp only[pD,pA,or_false]at hc
 rcases hc with rfl | rfl | rfl<;>simp[rb1]
def VK(tB dB:B)(μ:List (V×V))(c:V)(xs:List V):List B:=[tB,dB,.map (.arr 3) μ,.cells [.map 2],.cells [c],.buf 34 1 xs false]
def VO(tB dB:B)(o:List (List Int)):List B:=VK tB dB (mK o) (.buf 5 0 o.length o.length) (o.map (L1 false))
theorem VO_rb{tB dB:B}(ht:∀n,rbB n tB)(hd:∀n,rbB n dB)(o:List (List Int)):∀bl∈VO tB dB o,rbB 6 bl:=fun bl hbl=>by
 unfold VO VK at hbl;simp only[pD,pA,or_false]at hbl
 rcases hbl with rfl | rfl | rfl | rfl | rfl | rfl
 ·exact ht _
 ·exact hd _
 ·exact mK_rb _ _ _
 ·intro c hc;simp at hc;subst hc;simp[rb,rb1]
 ·intro c hc;simp at hc;subst hc;simp[rb,rb1]
 ·exact LF_rb _ _ _
section
variable {tB dB:B} {μ:List (V×V)} {c:V} {xs:List V}
theorem vk2(l:List B):(VK tB dB μ c xs++l)[2]?=some (.map (.arr 3) μ):=rfl
theorem vk3(l:List B):(VK tB dB μ c xs++l)[3]?=some (.cells [.map 2]):=rfl
theorem vk4(l:List B):(VK tB dB μ c xs++l)[4]?=some (.cells [c]):=rfl
theorem vk5(l:List B):(VK tB dB μ c xs++l)[5]?=some (.buf 34 1 xs false):=rfl
theorem vs2(l:List B)(μ':List (V×V)):(VK tB dB μ c xs++l).set 2 (.map (.arr 3) μ')=VK tB dB μ' c xs++l:=rfl
theorem vs4(l:List B)(c':V):(VK tB dB μ c xs++l).set 4 (.cells [c'])=VK tB dB μ c' xs++l:=rfl
theorem vs5(l:List B)(xs':List V):(VK tB dB μ c xs++l).set 5 (.buf 34 1 xs' false)=VK tB dB μ c xs'++l:=rfl
theorem vt2(μ':List (V×V)):(VK tB dB μ c xs).set 2 (.map (.arr 3) μ')=VK tB dB μ' c xs:=rfl
theorem vt4(c':V):(VK tB dB μ c xs).set 4 (.cells [c'])=VK tB dB μ c' xs:=rfl
theorem vt5(xs':List V):(VK tB dB μ c xs).set 5 (.buf 34 1 xs' false)=VK tB dB μ c xs':=rfl
theorem vkl:(VK tB dB μ c xs).length=6:=rfl
theorem vx0{X:List B}{n:Nat}(h:n=6+X.length)(b:B)(l:List B):(VK tB dB μ c xs++(X++b::l))[n]?=some b:=by
 rw[←pb];exact app0 (by rw[pK,vkl,h]) b l
theorem vx1{X:List B}{n:Nat}(h:n=6+X.length)(a b:B)(l:List B):(VK tB dB μ c xs++(X++a::b::l))[n+1]?=some b:=by
 rw[←pb];exact app1 (by rw[pK,vkl,h]) a b l
theorem vxs0{X:List B}{n:Nat}(h:n=6+X.length)(b b':B)(l:List B):(VK tB dB μ c xs++(X++b::l)).set n b'=VK tB dB μ c xs++(X++b'::l):=by
 rw[←pb,←pb,pr _ _ (by rw[pK,vkl,h];omega)];simp[vkl,h]
theorem vxs1{X:List B}{n:Nat}(h:n=6+X.length)(a b b':B)(l:List B):(VK tB dB μ c xs++(X++a::b::l)).set (n+1) b'=VK tB dB μ c xs++(X++a::b'::l):=by
 rw[←pb,←pb,pr _ _ (by rw[pK,vkl,h];omega)];simp[vkl,h]
end
theorem isZ_srt(l:List Int)(h:1≤l.length):isZ ltZ (l.length-1) 1 l=srt l:=by
 refine srt_eq (isZ_perm _ _ _ _ (by omega)) (nw _ _ _ (by omega) ?_)
 match l,h with
 | x::l,_=>simp
theorem list1{l:List Int}(h:l.length=1):∃a,l=[a]:=by
 match l,h with
 | [a],_=>exact⟨a,rfl⟩
theorem list2{l:List Int}(h:l.length=2):∃a b,l=[a,b]:=by
 match l,h with
 | [a,b],_=>exact⟨a,b,rfl⟩
theorem list3{l:List Int}(h:l.length=3):∃a b c,l=[a,b,c]:=by
 match l,h with
 | [a,b,c],_=>exact⟨a,b,c,rfl⟩
theorem back_u(t:Tb)(d:Dn)(tB dB:B)(ht:∀n,rbB n tB)(hd:∀n,rbB n dB)(hv1:1≤d.vars)(hv3:d.vars≤3):Back t d (.fn 195 [.ptr 3 0,.ptr 4 0]) (VO tB dB) 6:=by
 intro X hX rs fl o hrs _ ho hoL;obtain⟨n,hn⟩:∃n,n=6+X.length:=⟨_,rfl⟩
 have hXl:∀(μ:List (V×V)) (c:V) (xs:List V),(VK tB dB μ c xs++X).length=n:=fun μ c xs=>by rw[pK,vkl,hn]
 have hrl:rs.length≤3:=by omega
 have hr1:1≤rs.length:=by omega
 obtain⟨I,hI⟩:∃I,I=dl rs:=⟨_,rfl⟩
 have hIl:I.length=rs.length:=by rw[hI,gv]
 obtain⟨S,hS⟩:∃S,S=srt I:=⟨_,rfl⟩
 have hSl:S.length=d.vars.toNat:=by rw[hS,og,hIl,hrs]
 rw[←hI,←hS]
 have x0:=fun μ c xs b l=>vx0 (tB:=tB) (dB:=dB) (μ:=μ) (c:=c) (xs:=xs) hn b l
 have x1:=fun μ c xs a b l=>vx1 (tB:=tB) (dB:=dB) (μ:=μ) (c:=c) (xs:=xs) hn a b l
 have y0:=fun μ c xs b b' l=>vxs0 (tB:=tB) (dB:=dB) (μ:=μ) (c:=c) (xs:=xs) hn b b' l
 have y1:=fun μ c xs a b b' l=>vxs1 (tB:=tB) (dB:=dB) (μ:=μ) (c:=c) (xs:=xs) hn a b b' l
 have hO6:=VO_rb ht hd o
 have hrbx:∀b:B,(∀k,rbB k b)→∀bl∈VO tB dB o++(X++[b]),rbB (VO tB dB o++(X++[b])).length bl:=fun b hb=>by
  rw[←pb];exact rbs_app2 (kz rfl hO6 hX) (fun bl hbl=>by simp at hbl;subst hbl;exact hb _)
 have hbI:∀(e:Nat) (l:List Int) k,rbB k (.buf e 1 (l.map au) false):=fun e l k=>(rbB_buf1 (fun x hx=>by obtain⟨y,_,rfl⟩:=List.mem_map.1 hx;exact⟨by simp,rfl⟩)).2 trivial
 have hsort:aZ Tryz.prog 60 [.buf n 0 rs.length rs.length] (VO tB dB o++(X++[.buf 2 1 (I.map au) false])) fun _ H'=>H'=VO tB dB o++(X++[.buf 2 1 (S.map au) false]):=by
  have h:=sortZ_h (H:=VO tB dB o++(X++[.buf 2 1 (I.map au) false])) (k:=n) (by unfold VO;simp[vkl,hn]) (hrbx _ (hbI _ _)) I rs.length hIl (by omega);rw[←hIl,isZ_srt I (by omega),←hS]at h;unfold SZ nzL VO at h;rw[y0,y0]at h;rw[←hIl];exact h
 simp only[aI,pn,pU];have hO':∀o',(∀bl∈VO tB dB o',rbB 6 bl):=VO_rb ht hd;refine ip ?_ (by simp[rb,rb1]) ⟨by simp[VO,vkl],kz rfl (hO' _) hX⟩;refine aK tok Tryz.func195 rfl rfl ?_;refine ie ?_;refine wx ?_;simp -dsimp[Tryz.f195,ou,LR];refine ie ?_;refine wx ?_;simp -dsimp[];refine ie ?_;refine wx ?_;simp -dsimp[];have fl0:(VO tB dB o++X).length=n:=hXl _ _ _
 have fx0:∀b l,(VO tB dB o++(X++b::l))[n]?=some b:=fun b l=>x0 _ _ _ b l
 have fy0:∀b b' l,(VO tB dB o++(X++b::l)).set n b'=VO tB dB o++(X++b'::l):=fun b b' l=>y0 _ _ _ b b' l
 have fl1:(VO tB dB o).length+X.length=n:=by rw[←fl0,pK]
 refine aR (iR 2 1 [5] (by simp) (W_loopM 21 0x1ff8a0 (by simp[mB]<;>rfl) (σ:=Nat) (fun i=>i≤rs.length) (fun i=>rs.length-i) (fun i=>[(11,.int .i64 i),(5,.buf n 0 i i)]) (fun i=>VO tB dB o++(X++[.buf 2 1 ((I.take i).map au) false])) 0 (by omega) (by simp[fl1]) (by simp) (by simp) ?_));intro i hi N Q hN hQ
 have hti:(I.take i).length=i:=by simp;omega
 by_cases hb:i<rs.length
 ·have hbI2:i<I.length:=by omega
  obtain⟨r,hre⟩:∃r,r=rs[i]:=⟨_,rfl⟩
  have hIi:I[i]=r.id:=by rw[hre];simp[hI,dl]
  have hts:I.take (i+1)=I.take i++[r.id]:=by rw[pJ hbI2,hIi]
  obtain⟨J,hJ⟩:∃J,J=I.take i:=⟨_,rfl⟩;rw[←hJ]at hti hts ⊢;refine wx ?_;simp -dsimp[hb,hre.symm,aT,LV,fx0,fy0,hti,cap8 i (by omega),aa i (by omega),fl1];refine hN (i+1) _ _ (by omega) (by omega) (by simp) ⟨[B.cells [.int .i64 r.id,.lst 3 false (r.vals.map ac)]],by simp[hts,au]⟩ (by simp;omega) (hrbx _ (hbI _ _))
 ·obtain rfl:i=rs.length:=by omega
  rw[show I.take rs.length=I from pX (by omega)];refine wx ?_;simp -dsimp[hb];refine hQ _ _ _ ?_;simp -dsimp[];refine ie ?_;refine wx ?_;simp -dsimp[];refine wcZ hsort ?_;rintro _ _ rfl;simp -dsimp[]
  have hSr:S.length=rs.length:=by rw[hSl,hrs]
  refine gY n [5] (fx0 _ []) (by simp[hSr]) ?_;rw[fy0]
  have h61:6+(X.length+1)=n+1:=by omega
  have h3:S.length=1∨S.length=2∨S.length=3:=by omega
  by_cases hin:S∈o
  ·obtain⟨j,hj,_,_⟩:=findK_yes hSl (by omega) o 0 hoL hin
   have hpn:kG o S=o:=by unfold kG;rw[if_pos (by simpa using hin)]
   rw[hpn];clear hin hpn hsort hrbx hI hS hSl hSr
   rcases h3 with h3 | h3 | h3
   ·obtain⟨a,rfl⟩:=list1 h3;simp[gp]at hj;refine wx ?_;simp -dsimp[jx,au,VO,vk2,vk3,vk4,vk5,x0,x1,y0,y1,hj,vkl,h61,show(o.length:Int)≤20000 by omega]
   ·obtain⟨a,b,rfl⟩:=list2 h3;simp[gp]at hj;refine wx ?_;simp -dsimp[jx,au,VO,vk2,vk3,vk4,vk5,x0,x1,y0,y1,hj,vkl,h61,show(o.length:Int)≤20000 by omega]
   ·obtain⟨a,b,c,rfl⟩:=list3 h3;simp[gp]at hj;refine wx ?_;simp -dsimp[jx,au,VO,vk2,vk3,vk4,vk5,x0,x1,y0,y1,hj,vkl,h61,show(o.length:Int)≤20000 by omega]
  ·have hj:=findK_no hSl (by omega) o 0 hoL hin
   have hpn:kG o S=o++[S]:=by unfold kG;rw[if_neg (by simpa using hin)]
   rw[hpn];clear hin hpn hsort hrbx hI hS hSl hSr
   rcases h3 with h3 | h3 | h3
   ·obtain⟨a,rfl⟩:=list1 h3;simp[gp]at hj;refine wx ?_;simp -dsimp[jx,au,VO,vk2,vk3,vk4,vk5,vs2,vs4,vs5,vt2,vt4,vt5,x0,x1,y0,y1,hj,vkl,h61,mI o.length (by omega),eJ o.length (by omega),show(o.length:Int)+1≤20000 by omega];exact⟨_,by simp[VO,nI,gp,L1,au];rfl⟩
   ·obtain⟨a,b,rfl⟩:=list2 h3;simp[gp]at hj;refine wx ?_;simp -dsimp[jx,au,VO,vk2,vk3,vk4,vk5,vs2,vs4,vs5,vt2,vt4,vt5,x0,x1,y0,y1,hj,vkl,h61,mI o.length (by omega),eJ o.length (by omega),show(o.length:Int)+1≤20000 by omega];exact⟨_,by simp[VO,nI,gp,L1,au];rfl⟩
   ·obtain⟨a,b,c,rfl⟩:=list3 h3;simp[gp]at hj;refine wx ?_;simp -dsimp[jx,au,VO,vk2,vk3,vk4,vk5,vs2,vs4,vs5,vt2,vt4,vt5,x0,x1,y0,y1,hj,vkl,h61,mI o.length (by omega),eJ o.length (by omega),show(o.length:Int)+1≤20000 by omega];exact⟨_,by simp[VO,nI,gp,L1,au];rfl⟩
end
structure CfOk (n:Nat) (c:Cfd):Prop where
 p:c.p.length=c.l.length+1
 l:my n c.l
 r0:0≤c.r
 r1:c.r<n
 lb:c.l.length≤1000000
theorem cf_ok{n:Nat}{c:Cfd}(h:cfB n c=true)(hl:c.l.length≤1000000):CfOk n c:=by
 unfold cfB at h;simp only[pC,decide_eq_true_eq]at h;exact⟨h.2.2.1,ascI_ats (b:=-1) (by omega) h.2.2.2.1,h.1,h.2.1,hl⟩
theorem pclo_u(a b:Rw)(fa fb:Bool)(b0:B)(n:Nat)(hva:a.vals.length=n)(hvb:b.vals.length=n)(k:Int)(h0:0≤k)(h1:k<n):
  aI Tryz.prog (.fn 240 [.ptr 1 0,.ptr 2 0]) [.int .i64 k] [b0,B.cells [LV fa a.vals],B.cells [LV fb b.vals]] fun r H'=>r = .bool (!kq (vAt a.vals k.toNat) (vAt b.vals k.toNat))∧H'=[b0,B.cells [LV fa a.vals],B.cells [LV fb b.vals]]:=by
 obtain⟨j,hj⟩:=qy h0
 have hja:j<a.vals.length:=by omega
 have hjb:j<b.vals.length:=by omega
 rw[hj,jN hja,jN hjb];obtain⟨v,hv⟩:∃v,v=a.vals[j]:=⟨_,rfl⟩;obtain⟨w,hw⟩:∃w,w=b.vals[j]:=⟨_,rfl⟩;rw[←hv,←hw];simp only[aI,pn,pU,LV]
 cases he:kq ⟨v.k,v.n,v.s⟩ ⟨w.k,w.n,w.s⟩ with
 | true =>
  refine aK tok Tryz.func240 rfl rfl ?_;refine wx ?_;simp -dsimp[Tryz.f240,ou,hja,hjb,hv.symm,hw.symm,ac,eqVl,he];exact .inr (bN (by kernel_rfl))
 | false =>
  refine aK tok Tryz.func240 rfl rfl ?_;refine wx ?_;simp -dsimp[Tryz.f240,ou,hja,hjb,hv.symm,hw.symm,ac,eqVl,he];exact .inr (bN (by kernel_rfl))
theorem pairC_u(c:Cfd)(a b:Rw)(f g fa fb:Bool)(n:Nat)(h:CfOk n c)(hva:a.vals.length=n)(hvb:b.vals.length=n):aE Tryz.prog 189 [gT f g c,LV fa a.vals,LV fb b.vals] fun x=>x = .bool (jW c a b):=by
 obtain⟨k,hk⟩:=qy h.r0;have hr1:=h.r1
 have hka:k<a.vals.length:=by omega
 have hkb:k<b.vals.length:=by omega
 obtain⟨x,hxx⟩:∃x,x=a.vals[k]:=⟨_,rfl⟩;obtain⟨y,hyy⟩:∃y,y=b.vals[k]:=⟨_,rfl⟩
 have hpf:jW c a b=(!kq x y&&c.l.all fun k=>kq (vAt a.vals k.toNat) (vAt b.vals k.toNat)):=by unfold jW;rw[hk,jN hka,jN hkb,←hxx,←hyy]
 rw[hpf,←mM];have hc:=cont_I [B.cells [.lst 1 f (c.l.map au),.int .i64 c.r,.lst 4 g (c.p.map dG)],B.cells [LV fa a.vals],B.cells [LV fb b.vals]] (.fn 240 [.ptr 1 0,.ptr 2 0]) (fun k=>!kq (vAt a.vals k.toNat) (vAt b.vals k.toNat)) c.l f h.lb (by simp[LV,au]) (by simp) (fun m hm=>pclo_u a b fa fb _ n hva hvb m (h.l m hm).1 (h.l m hm).2)
 obtain⟨u,hu⟩:∃u,u=c.l.any fun k=>!kq (vAt a.vals k.toNat) (vAt b.vals k.toNat):=⟨_,rfl⟩
 rw[←hu]at hc ⊢;simp only[L1,LV,hk]at hc
 cases he:kq ⟨x.k,x.n,x.s⟩ ⟨y.k,y.n,y.s⟩ with
 | true =>
  refine sPx Tryz.func189 rfl rfl ?_;simp -dsimp[Tryz.f189,ou,gT,L1,LCl,LV,hk,hka,hkb,hxx.symm,hyy.symm,ac,eqVl,he];exact .inr (bN (by kernel_rfl))
 | false =>
  refine sPx Tryz.func189 rfl rfl ?_;simp -dsimp[Tryz.f189,ou,gT,L1,LCl,LV,hk,hka,hkb,hxx.symm,hyy.symm,ac,eqVl,he];refine .inl (aR (ao tok mixed [15] [] [(.bool u,[B.cells [.lst 1 f (c.l.map au),.int .i64 (k:Int),.lst 4 g (c.p.map dG)],B.cells [.lst 3 fa (a.vals.map ac)],B.cells [.lst 3 fb (b.vals.map ac)]])] (by kernel_rfl) fun C K hC hK=>?_));simp -implicitDefEqProofs [hk,hka,hkb,hxx.symm,hyy.symm,ac,eqVl,he];refine⟨hC _ _ _ _ hc,hK _ _ ?_⟩;simp -dsimp[]
def jd(l:List Int):Prop:=l≠[]∧l.length≤3∧∀a∈l,0<a
theorem jk{l:List Int}(h:jd l):(∃a,l=[a]∧0<a)∨(∃a b,l=[a,b]∧0<a∧0<b)∨∃a b c,l=[a,b,c]∧0<a∧0<b∧0<c:=by
 obtain⟨h1,h2,h3⟩:=h
 match l,h1,h2 with
 | [a],_,_=>exact .inl ⟨a,rfl,h3 a (by simp)⟩
 | [a,b],_,_=>exact .inr (.inl ⟨a,b,rfl,h3 a (by simp),h3 b (by simp)⟩)
 | [a,b,c],_,_=>exact .inr (.inr ⟨a,b,c,rfl,h3 a (by simp),h3 b (by simp),h3 c (by simp)⟩)
 | _::_::_::_::_,_,h2=>simp at h2
theorem key3_inj{a b:List Int}(ha:jd a)(hb:jd b)(h:ah (gp a) (gp b)=true):a=b:=by
 rcases jk ha with⟨x,rfl,h1⟩ | ⟨x,y,rfl,h1,h2⟩ | ⟨x,y,z,rfl,h1,h2,h3⟩<;>rcases jk hb with⟨x',rfl,g1⟩ | ⟨x',y',rfl,g1,g2⟩ | ⟨x',y',z',rfl,g1,g2,g3⟩<;>simp[gp,ah,fN]at h ⊢<;>omega
theorem key3_self(a:List Int):ah (gp a) (gp a)=true:=by simp[gp,ah,fN]
theorem key3_eqP{a b:List Int}(ha:jd a)(hb:jd b):ah (gp a) (gp b)=(a == b):=by
 by_cases h:a=b
 ·subst h;rw[key3_self];simp
 ·have h2:(a == b)=false:=by simpa using h
  rw[h2,←qc]
  exact fun hh=>h (key3_inj ha hb hh)
theorem oG{x:List Int}(hx:jd x):∀(o:List (List Int)) (i:Nat),(∀l∈o,jd l)→x∉o→dS (gp x) (mK o) i=none
 | [],_,_,_=>rfl
 | l::o,i,h,hn=>by
  have h1:=key3_eqP hx (h l (by simp))
  have hne:¬x=l:=fun e=>hn (by rw[e];simp)
  have h2:(x == l)=false:=by simpa using hne
  show(if ah (gp x) (gp l)=true then some (i,V.bool true) else dS (gp x) (mK o) (i+1))=none;rw[h1,h2,if_neg (by simp)];exact oG hx o (i+1) (fun l' hl=>h l' (by simp[hl])) (fun e=>hn (by simp[e]))
theorem kZ{x:List Int}(hx:jd x):∀(o:List (List Int)) (i:Nat),(∀l∈o,jd l)→x∈o→∃j,dS (gp x) (mK o) i=some (j,.bool true)∧i≤j∧o[j-i]?=some x
 | [],_,_,h=>by cases h
 | l::o,i,h,hn=>by
  have h1:=key3_eqP hx (h l (by simp));by_cases he:x=l
  ·subst he;refine⟨i,?_,pI _,by simp⟩;show(if ah (gp x) (gp x)=true then some (i,V.bool true) else dS (gp x) (mK o) (i+1))=_;rw[key3_self,if_pos rfl]
  ·have h2:(x == l)=false:=by simpa using he
   obtain⟨j,hj,hij,hg⟩:=kZ hx o (i+1) (fun l' hl=>h l' (by simp[hl])) (by
    rcases List.mem_cons.1 hn with e | e
    ·exact absurd e he
    ·exact e)
   refine⟨j,?_,by omega,?_⟩
   ·show(if ah (gp x) (gp l)=true then some (i,V.bool true) else dS (gp x) (mK o) (i+1))=_;rw[h1,h2,if_neg (by simp)];exact hj
   ·rw[show j-i=(j-(i+1))+1 by omega,qg];exact hg
theorem mK_set{o:List (List Int)}{x:List Int}{j:Nat}(h:o[j]?=some x):(mK o).set j (gp x,.bool true)=mK o:=by
 unfold mK;obtain⟨hj,rfl⟩:=List.getElem?_eq_some_iff.1 h;have:=rx (f:=fun l:List Int=>(gp l,V.bool true)) (l:=o) (i:=j) (a:=o[j]);rw[←this,rn]
def ddL(l:List (List Int))(i:Nat):List (List Int):=(l.take i).foldl kG []
theorem ddL_succ{l:List (List Int)}{i:Nat}(h:i<l.length):ddL l (i+1)=kG (ddL l i) l[i]:=by
 unfold ddL;rw[pJ h,List.foldl_append];rfl
theorem fold_putN:∀(l o:List (List Int)) (x:List Int),x∈l.foldl kG o↔x∈o∨x∈l
 | [],o,x=>by simp
 | a::l,o,x=>by
  rw[rF,fold_putN l,lV,pD,or_assoc]
theorem ddL_mem{l:List (List Int)}{i:Nat}{x:List Int} : x∈ddL l i↔x∈l.take i:=by
 unfold ddL;rw[fold_putN];simp
theorem tbOf_attrs{x:Rcp}(h:0≤x.a):(ia x).attrs.length=(x.a.tmod 6).toNat:=by
 obtain⟨h1,_⟩:=tbOf_n h;show(L8.take (x.a.tmod 6).toNat).length=_;rw[qO];have:L8.length=8:=rfl;omega
theorem kS(x:Rcp):(ia x).rows.length=x.rows.length:=wRows_len _ _ _
theorem nC{x:Rcp}(h:RcpOk x):TbS (ia x)∧aQ (ia x)=0:=by
 obtain⟨h1,_⟩:=tbOf_n h.a.1;have ha:=tbOf_attrs h.a.1;have hr:=kS x;have h6:=h.rows;obtain⟨w1,w2⟩:=wideT_rows (x:=x) (n:=(x.a.tmod 6).toNat) h.gap
 have ok:TbOk (ia x):=⟨(show(⟨#[114]⟩:ByteArray).size≤maxLen by decide),by omega,by omega,fun s hs=>by
  have hs:=pi (show s∈L8.take (x.a.tmod 6).toNat from hs)
  have:∀s∈L8,s.size≤maxLen:=by
   intro s hs;simp only[L8,pD,pA,or_false]at hs
   rcases hs with rfl | rfl | rfl | rfl | rfl | rfl | rfl | rfl<;>decide
  exact this s hs⟩
 refine⟨⟨ok,fun r hr v hv=>by obtain⟨m,rfl⟩:=(w1 r hr).2.2 v hv;exact ofV_sz m,by omega⟩,?_⟩;unfold aQ;rw[show av (ia x).name=true by kernel_rfl,if_pos rfl,if_neg (by omega),show cO (ia x).attrs=true from names_few _ h1,if_pos rfl];exact fm (fun r hr=>(w1 r hr).1) (fun r hr=>by rw[ha];exact(w1 r hr).2.1) (fun r hr v hv=>by obtain⟨m,rfl⟩:=(w1 r hr).2.2 v hv;exact ofV_val m) w2
end
end Go.Proofs.YtjogkbekekdkjaaGreatDoor
