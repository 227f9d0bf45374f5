/- JM32: own texts of this seat, joined and shortened by pack4.py: Svh0, Svh, Lsm. -/
import Derived.Test.YtdnhplencamncaaGreatDoorJM27
import Derived.Test.YtdnhplencamncaaGreatDoorJM29
import Derived.Test.YtdnhplencamncaaGreatDoorJM31
set_option linter.unusedVariables false
set_option linter.unusedSimpArgs false
set_option maxRecDepth 100000
set_option maxHeartbeats 64000000
open Bool renaming and_eq_true→oP,not_eq_true'→pZ
open ByteArray renaming empty→oF
open List renaming replicate→oE,getElem_mem→oI,take_succ_eq_append_getElem→oN,not_mem_nil→oO,mem_cons→oR,length_map→oW,take_length→oY,map_append→oe,mem_cons_self→ou,mem_cons_of_mem→ow,set_cons_zero→oz,set_cons_succ→pG,nil_append→pH,map_map→qu,pairwise_map→rU,any_eq_false→rX,flatten_cons→rY
open Nat renaming le_trans→pY
namespace Go.Proofs.YtdnhplencamncaaGreatDoor
section
open Go Go.AM
theorem djJ_some:∀{c s s':List Int},djJ c s=some s'→s'=s++c∧(∀x∈c,¬x∈s)∧c.Nodup
 | [],s,s',h=>by simp[djJ]at h;subst h;simp
 | x::c,s,s',h=>by
  rw[djJ]at h;split at h
  ·cases h
  ·rename_i hm
   have hm2:¬x∈s:=fun e=>hm (di.2 e)
   obtain⟨h1,h2,h3⟩:=djJ_some h;refine⟨by rw[h1];simp,fun y hy=>?_,?_⟩
   ·rcases List.mem_cons.1 hy with rfl | hy
    ·exact hm2
    ·intro e;exact h2 y hy (List.mem_append_left _ e)
   ·rw[List.nodup_cons];exact⟨fun e=>h2 x e (by simp),h3⟩
structure DjOk (cs:List (List Int)) (s s':List Int):Prop where
 eq:s'=s++cs.flatten
 asc:∀c∈cs,asvB c=true
 nd:cs.flatten.Nodup
 new:∀x∈cs.flatten,¬x∈s
theorem djI_some:∀{cs:List (List Int)} {s s':List Int},djI cs s=some s'→DjOk cs s s'
 | [],s,s',h=>by simp[djI]at h;subst h;exact⟨by simp,by simp,by simp,by simp⟩
 | c::cs,s,s',h=>by
  rw[djI]at h;split at h
  ·rename_i ha
   cases hj:djJ c s with
   | none=>rw[hj]at h;cases h
   | some u =>
    rw[hj]at h;obtain⟨h1,h2,h3⟩:=djJ_some hj;obtain⟨k1,k2,k3,k4⟩:=djI_some h;refine⟨by rw[k1,h1];simp,fun d hd=>?_,?_,fun x hx=>?_⟩
    ·rcases List.mem_cons.1 hd with rfl | hd
     ·exact ha
     ·exact k2 d hd
    ·rw[rY];refine List.nodup_append.2 ⟨h3,k3,fun a ha2 b hb e=>?_⟩;subst e;exact k4 a hb (by rw[h1];exact List.mem_append_right _ ha2)
    ·rw[rY]at hx
     rcases List.mem_append.1 hx with hx | hx
     ·exact h2 x hx
     ·intro e;exact k4 x hx (by rw[h1];exact List.mem_append_left _ e)
  ·cases h
theorem asv_pos{c:List Int}(h:asvB c=true):0<c.length:=by
 unfold asvB at h;simp at h;exact h.2
theorem asvI_pw:∀{l:List Int},asvI l=true→l.Pairwise (· < ·)
 | [],_=>by simp
 | [a],_=>by simp
 | a::b::l,h=>by
  rw[asvI]at h;split at h
  ·cases h
  ·rename_i hab;have ih:=asvI_pw h;rw[List.pairwise_cons];refine⟨fun x hx=>?_,ih⟩
   rcases List.mem_cons.1 hx with rfl | hx
   ·omega
   ·have:=(List.pairwise_cons.1 ih).1 x hx;omega
theorem asv_pw{c:List Int}(h:asvB c=true):c.Pairwise (· < ·):=by
 unfold asvB at h;rw[oP]at h;exact asvI_pw h.1
theorem fl_heads:∀{cs:List (List Int)},cs.flatten.Nodup→(∀c∈cs,0<c.length)→∀x∈cs,∀y∈cs,x.getD 0 0=y.getD 0 0→x=y
 | [],_,_=>by simp
 | c::cs,hn,hp=>by
  rw[rY,List.nodup_append]at hn;obtain⟨_,h2,h3⟩:=hn
  have hd:∀l:List Int,0<l.length→l.getD 0 0∈l:=fun l hl=>by
   rw[show l.getD 0 0=l[0] by simp[hl]];exact oI hl
  intro x hx y hy e
  rcases List.mem_cons.1 hx with hx1 | hx1<;>rcases List.mem_cons.1 hy with hy1 | hy1
  ·rw[hx1,hy1]
  ·exact absurd e (h3 _ (by rw[hx1];exact hd _ (hp _ (ou ..))) _ (List.mem_flatten.2 ⟨y,hy1,hd _ (hp _ hy)⟩))
  ·exact absurd e.symm (h3 _ (by rw[hy1];exact hd _ (hp _ (ou ..))) _ (List.mem_flatten.2 ⟨x,hx1,hd _ (hp _ hx)⟩))
  ·exact fl_heads h2 (fun c hc=>hp c (ow _ hc)) x hx1 y hy1 e
structure DvOk (t:Tb) (cs:List (List Int)):Prop where
 pos:∀c∈cs,0<c.length
 asc:∀c∈cs,c.Pairwise (· < ·)
 nd:cs.flatten.Nodup
 ids:∀x∈cs.flatten,∃r∈t.rows,r.id=x
 len:cs.flatten.length=t.rows.length
theorem dvd_ok{t:Tb}{cs:List (List Int)}(hs:t.rows.Pairwise fun r s=>r.id<s.id)(h:iW t cs=true):DvOk t cs:=by
 unfold iW at h
 cases hD:djI cs [] with
 | none=>rw[hD]at h;cases h
 | some s =>
  rw[hD]at h;simp only[oP,decide_eq_true_eq,pZ,rX,Bool.not_eq_false']at h;obtain⟨h1,h2⟩:=h;obtain⟨k1,k2,k3,_⟩:=djI_some hD;rw[pH]at k1;subst k1
  have hnd:(t.rows.map (·.id)).Nodup:=by
   unfold List.Nodup;rw[rU]
   exact hs.imp fun h=>by omega
  refine⟨fun c hc=>asv_pos (k2 c hc),fun c hc=>asv_pw (k2 c hc),k3,fun x hx=>?_,h1⟩;by_cases hm:x∈t.rows.map (·.id)
  ·obtain⟨r,hr,e⟩:=List.mem_map.1 hm;exact⟨r,hr,e⟩
  ·have hsub:∀y∈t.rows.map (·.id),y∈cs.flatten.erase x:=fun y hy=>by
    obtain⟨r,hr,rfl⟩:=List.mem_map.1 hy;have h3:=di.1 (by have:=h2 r hr;simpa using this);rw[List.mem_erase_of_ne (fun e=>hm (by rw[←e];exact hy))];exact h3
   have h4:=hnd.length_le_of_subset hsub;rw[List.length_erase_of_mem hx,oW]at h4;have:0<cs.flatten.length:=List.length_pos_of_mem hx;omega
theorem kp_ok{t:Tb}{us c:List Int}(hv:aG t=0)(hu:us.length=t.attrs.length)(hr:∀u∈us,iU u=true)(hn:t.rows.length≤1000)(hp:0<c.length)(hid:∃r∈t.rows,r.id=c.getD 0 0):MgOk (kpR c t.rows) us:=by
 have tc:=tbC hv;obtain⟨r,hr1,hr2⟩:=hid;have hm:r∈kpR c t.rows:=fu.2 ⟨hr1,di.2 (by rw[hr2,show c.getD 0 0=c[0] by simp[hp]];exact oI hp)⟩;have hw:=tc.wide;refine⟨List.length_pos_of_mem hm,pY (kpR_len _ _) hn,fun q hq=>by rw[hu];exact tc.len q (fu.1 hq).1,fun q hq=>tc.pos q (fu.1 hq).1,?_,fun q hq v hvm=>List.all_eq_true.1 (tc.val q (fu.1 hq).1) v hvm,by omega,hr⟩;rw[rU];exact(tc.ids.filter _)
structure Mgd where
 rows:List Rw
 cl:List (List Int)
 org:List (List Int)
def mgT(t:Tb)(cs:List (List Int))(us:List Int):Mgd:=⟨(aw cs).map fun c=>mgRw (kpR c t.rows) us,aw cs,(aw cs).map fun c=>ir (kpR c t.rows) us us.length⟩
def ei(t:Tb)(m:Mgd):V:=.agg [.str t.name,LS false t.attrs,LR false m.rows,LLz false m.cl,LLz false m.org]
def zMg:V:=.agg [.str oF,.nilS,.nilS,.nilS,.nilS]
def tbV(t:Tb)(cs:List (List Int))(us:List Int):V:=if iW t cs=true then .tup [ei t (mgT t cs us),.int .i64 0] else .tup [zMg,.int .i64 1]
theorem mtable_u(t:Tb)(cs:List (List Int))(us:List Int)(f g fc gu:Bool)(hV:aJ Tryz.prog 31 [aD f g t] fun r=>r = .int .i64 (aG t))(hv:aG t=0)(hu:us.length=t.attrs.length)(hru:∀u∈us,iU u=true)(hn:t.rows.length≤1000)(hcl:cs.length≤1000)(hc:∀c∈cs,c.length≤1000):
  aJ Tryz.prog 21 [aD f g t,LLz fc cs,L1 gu us] fun r=>r=tbV t cs us:=by
 have tc:=tbC hv;have hw:=tc.wide;rw[hv]at hV;have cd:=divides_u t f g fc cs (by omega) (by omega) (fun c h=>by have:=hc c h;omega);obtain⟨tb,htbe⟩:∃tb,tb=B.cells [.str t.name,.lst 1 f (t.attrs.map V.str),.lst 2 g (t.rows.map aC)]:=⟨_,rfl⟩
 have htr:∀k,rbB k tb:=fun k=>by rw[htbe];simp
 obtain⟨zb,hzb⟩:∃zb,zb=B.cells [.str oF,.nilS,.nilS,.nilS,.nilS]:=⟨_,rfl⟩
 have hzr:∀k,rbB k zb:=fun k=>by rw[hzb];simp
 have hany:us.any (fun r=>!iU r)=false:=by
  rw[rX];intro u hm;simp[hru u hm]
 have c3:=nb [tb,zb] (.fn 50 []) (fun r=>!iU r) us gu (by omega) (fun bl hbl=>by
  simp only[oR,oO,or_false]at hbl
  rcases hbl with rfl | rfl
  ·exact htr _
  ·exact hzr _) (by simp[rb,rb1]) (fun m _=>badR1 m _)
 rw[hany]at c3;unfold tbV;obtain⟨D,hD⟩:∃D,D=iW t cs:=⟨_,rfl⟩;rw[←hD]at cd ⊢;simp only[aD,LS,LR,LLz,L1]at hV cd c3
 cases D with
 | false =>
  rw[if_neg (by simp)];refine sPx Tryz.func21 rfl rfl ?_;simp -dsimp[Tryz.f21,oE,aD,LS,LR,LLz,L1];refine cPx (hV) (by simp) ?_;simp -dsimp[hu];rw[←htbe,←hzb];refine bF c3 ?_;rintro r H' ⟨rfl,rfl⟩;simp -dsimp[htbe];rw[←htbe];refine cPx (cd) (by simp) ?_;simp -dsimp[hzb];simp[zMg]
 | true =>
  rw[if_pos rfl];have ok:=dvd_ok tc.ids hD.symm;have ccl:=cloneL cs fc (by omega);have cat:=jz t.attrs f (by omega);have csort:=sortHd_u (H:=[tb,zb,B.buf 106 1 (cs.map (L1 false)) false]) (k:=2) (e:=106) (f:=false) cs cs.length rfl (by simp) (by omega) (fun l hl=>by have:=hc l hl;omega) ok.pos (fl_heads ok.nd ok.pos);have hSl:=dP cs;have hSp:=bg cs;obtain⟨S,hS⟩:∃S,S=aw cs:=⟨_,rfl⟩
  have hSc:∀c∈S,c∈cs:=fun c h=>hSp.mem_iff.1 (by rw[←hS];exact h)
  have hmg:mgT t cs us=⟨S.map fun c=>mgRw (kpR c t.rows) us,S,S.map fun c=>ir (kpR c t.rows) us us.length⟩:=by rw[hS];rfl
  rw[hmg];rw[←hS]at csort hSl;simp only[LBi,pG,oz]at csort;simp only[LLz,LS]at ccl cat
  have hmk:∀c∈S,MgOk (kpR c t.rows) us:=fun c h=>by
   have h2:=hSc c h;have h3:=ok.pos c h2;exact kp_ok hv hu hru hn h3 (ok.ids _ (List.mem_flatten.2 ⟨c,h2,by rw[show c.getD 0 0=c[0] by simp[h3]];exact oI h3⟩))
  refine sPx Tryz.func21 rfl rfl ?_;simp -dsimp[Tryz.f21,oE,aD,LS,LR,LLz,L1];refine cPx (hV) (by simp) ?_;simp -dsimp[hu];rw[←htbe,←hzb];refine bF c3 ?_;rintro r H' ⟨rfl,rfl⟩;simp -dsimp[htbe];rw[←htbe];refine cPx (cd) (by simp) ?_;simp -dsimp[];refine(fb ccl (by simp[L1])).mono ?_;rintro r H' ⟨e,z,xs,rfl,rfl,_,rfl,rfl,rfl⟩;simp -dsimp[];refine bF csort ?_;rintro r H' ⟨rfl,rfl⟩;simp -dsimp[htbe];refine aI (aX tok mixed [7,8] [(0,[1]),(1,[1]),(2,[1]),(3,[1]),(4,[1]),(5,[1]),(6,[1])] [(.lst 1 false (t.attrs.map V.str),[])] (by kernel_rfl) fun C K hC hK=>?_);simp -implicitDefEqProofs [htbe];refine⟨⟨hC _ _ _ _ (aT cat (by simp)),hC _ _ _ _ (aT cat (by simp))⟩,hK _ _ ?_⟩
  have hSm:(S.map (L1 false)).length=cs.length:=by rw[oW,hSl]
  simp -dsimp[hSm];rw[←htbe]
  obtain⟨mr,hmr⟩:∃mr:List Int→Rw,mr=fun c=>mgRw (kpR c t.rows) us:=⟨_,rfl⟩
  obtain⟨mo,hmo⟩:∃mo:List Int→List Int,mo=fun c=>ir (kpR c t.rows) us us.length:=⟨_,rfl⟩
  rw[←hSl]
  have hSl1:S.length≤1000:=by omega
  have hrb:∀(i:Nat) (x:List Rw) (y z:List (List Int)),∀bl∈[tb,zb,B.buf 106 1 (S.map (L1 false)) false,B.cells [.str t.name,.lst 1 false (t.attrs.map V.str),.buf 4 0 i i,.buf 5 0 i i,.buf 6 0 i i],B.buf 53 2 (x.map aC) false,B.buf 106 1 (y.map (L1 false)) false,B.buf 106 1 (z.map (L1 false)) false],rbB 7 bl:=fun i x y z bl hbl=>by
   simp only[oR,oO,or_false]at hbl
   rcases hbl with rfl | rfl | rfl | rfl | rfl | rfl | rfl
   ·exact htr _
   ·exact hzr _
   ·simp[L1]
   ·simp
   ·exact rw_rbk _ _ _ _
   ·simp[L1]
   ·simp[L1]
  refine aI (dL 53 2 [] 3 [2] rfl (cD _ _) (by simp) (dL 106 1 [] 3 [3] rfl (cD _ _) (by simp) (dL 106 1 [] 3 [4] rfl (cD _ _) (by simp) (W_loopM 91 0x7fffffffff800000000f080 (by simp[mB]<;>rfl) (σ:=Nat) (fun i=>i≤S.length) (fun i=>S.length-i) (fun i=>[(51,.int .i64 i)]) (fun i=>[tb,zb,B.buf 106 1 (S.map (L1 false)) false,B.cells [.str t.name,.lst 1 false (t.attrs.map V.str),.buf 4 0 i i,.buf 5 0 i i,.buf 6 0 i i],B.buf 53 2 (((S.take i).map mr).map aC) false,B.buf 106 1 ((S.take i).map (L1 false)) false,B.buf 106 1 (((S.take i).map mo).map (L1 false)) false]) 0 (by omega) (by simp) (by simp) (by simp) ?_))));intro i hi N Q hN hQ;have wi:=aP i (by omega)
  have hl1:((S.take i).map mr).length=i:=by simp;omega
  have hl2:((S.take i).map (L1 false)).length=i:=by simp;omega
  have hl3:((S.take i).map mo).length=i:=by simp;omega
  by_cases hb:i<S.length
  ·have hst:=oN hb;have hcS:=oI hb;obtain⟨c,hce⟩:∃c,c=S[i]:=⟨_,rfl⟩;rw[←hce]at hst hcS;have hcc:=hc c (hSc c hcS);have ck:=keep_u t c f g false (by omega) (by omega) (fun r hr=>by rw[tc.len r hr];omega) (by omega);have cm:=merge_u (kpR c t.rows) us false gu (hmk c hcS);have ccl2:=clone64p c false (by omega)
   have e1:mr c=mgRw (kpR c t.rows) us:=by rw[hmr]
   have e2:mo c=ir (kpR c t.rows) us us.length:=by rw[hmo]
   rw[←e1,←e2]at cm
   have h1s:(S.take (i+1)).map mr=(S.take i).map mr++[mr c]:=by rw[hst,oe];rfl
   have h2s:(S.take (i+1)).map (L1 false)=(S.take i).map (L1 false)++[L1 false c]:=by rw[hst,oe];rfl
   have h3s:(S.take (i+1)).map mo=(S.take i).map mo++[mo c]:=by rw[hst,oe];rfl
   obtain⟨X1,hX1⟩:∃X,X=(S.take i).map mr:=⟨_,rfl⟩;obtain⟨X2,hX2⟩:∃X,X=(S.take i).map (L1 false):=⟨_,rfl⟩;obtain⟨X3,hX3⟩:∃X,X=(S.take i).map mo:=⟨_,rfl⟩;rw[←hX1]at h1s hl1 ⊢;rw[←hX2]at h2s hl2 ⊢;rw[←hX3]at h3s hl3 ⊢;obtain⟨M,hM⟩:∃M,M=mr c:=⟨_,rfl⟩;obtain⟨O,hO⟩:∃O,O=mo c:=⟨_,rfl⟩;rw[←hM]at cm h1s;rw[←hO]at cm h3s;have cap1:=capRwk i (by omega);have cap2:=nu i (by omega);simp only[aD,LS,LR,L1,aC,LV]at ck cm ccl2;refine wx ?_;simp -dsimp[hb,hce.symm,htbe,hl1,hl2,hl3,L1];refine cPx (ck) (by simp) ?_;simp -dsimp[];refine cPx (cm) (by simp) ?_;simp -dsimp[hl1,cap1.1,cap1.2];refine aI (aX tok mixed [5,7] [] [(.lst 1 false (c.map aQ),[])] (by kernel_rfl) fun C K hC hK=>?_);simp -implicitDefEqProofs [hl2,cap2.1,cap2.2];refine⟨hC _ _ _ _ (aT ccl2 (by simp[aQ])),hK _ _ ?_⟩;simp -dsimp[hl3,cap2.1,cap2.2,wi];refine hN (i+1) _ _ (by omega) (by omega) (by simp) ⟨[B.cells [.int .i64 M.id,.lst 3 false (M.vals.map aF)]],?_⟩ (by simp[aQ]) (hrb _ _ _ _);rw[h1s,h2s,h3s,htbe];simp[aC,LV,L1]
  ·obtain rfl:i=S.length:=by omega
   rw[oY]at hl1 hl2 hl3 ⊢;refine eG 4 [] 3 [2] rfl rfl (by simp) (by simp[hl1]) ?_;refine eG 5 [] 3 [3] rfl rfl (by simp) (by simp[hl2]) ?_;refine eG 6 [] 3 [4] rfl rfl (by simp) (by simp[hl3]) ?_;refine wx ?_;simp -dsimp[hb];refine hQ _ _ _ ?_;simp -dsimp[hzb];simp only[ei,LS,LR,LLz,hmr,hmo,qu]
theorem ids_s(us:List Int)(f:Bool)(hl:us.length≤1000000):aJ Tryz.prog 62 [L1 f us,L1 f us] fun r=>r = .bool true:=by
 refine sPx Tryz.func62 rfl rfl ?_;simp -dsimp[Tryz.f62,oE,L1];refine aI (W_loopM 26 0x3fff830 (by simp[mB]<;>rfl) (σ:=Nat) (fun i=>i≤us.length) (fun i=>us.length-i) (fun i=>[(5,.int .i64 i)]) (fun _=>[]) 0 (by omega) (by simp) rfl (by simp) ?_);rintro i h1 N Q hN hQ;by_cases ha:i<us.length
 ·refine wx ?_;simp -dsimp[L1,aQ,ha,aP i (by omega)];refine .inr ⟨aS (by kernel_rfl),?_⟩;refine hN (i+1) _ _ (by omega) (by omega) ?_ ⟨[],?_⟩ ?_ ?_<;>simp[or_imp,forall_and,L1,aQ]
 ·refine wx ?_;simp -dsimp[L1,ha];refine hQ _ _ _ ?_;simp -dsimp[]
theorem lists_s(l:List (List Int))(f:Bool)(hl:l.length≤1000000)(hc:∀c∈l,c.length≤1000000):aJ Tryz.prog 23 [LLz f l,LLz f l] fun r=>r = .bool true:=by
 simp only[LLz]
 have hp:∀x∈l.map (L1 false),AM.Pure x:=fun x hx=>by obtain⟨c,_,rfl⟩:=List.mem_map.1 hx;simp
 refine sPx Tryz.func23 rfl rfl ?_;simp -dsimp[Tryz.f23,oE];refine aI (W_loopM 27 0x7fff830 (by simp[mB]<;>rfl) (σ:=Nat) (fun i=>i≤l.length) (fun i=>l.length-i) (fun i=>[(5,.int .i64 i)]) (fun _=>[]) 0 (by omega) (by simp) rfl (by simp) ?_);rintro i h1 N Q hN hQ;by_cases ha:i<l.length
 ·have ci:=ids_s l[i] false (hc _ (oI ha));obtain⟨y,hy⟩:∃y,y=l[i]:=⟨_,rfl⟩;rw[←hy]at ci;simp only[L1]at ci;refine wx ?_;simp -dsimp[ha,hy.symm,L1];refine .inr ⟨aS (by kernel_rfl),?_⟩;refine az _ (aT (ci) (by simp)) ?_;simp -dsimp[aP i (by omega)];refine hN (i+1) _ _ (by omega) (by omega) (by simp) ⟨[],by simp⟩ (by simp) (by simp)
 ·refine wx ?_;simp -dsimp[ha];refine hQ _ _ _ ?_;simp -dsimp[]
theorem same_s(t:Tb)(m:Mgd)(ha:t.attrs.length≤1000000)(hr:m.rows.length≤1000000)(hl:∀r∈m.rows,r.vals.length≤1000000∧∀v∈r.vals,v.s.size≤maxLen)(h1:m.cl.length≤1000000)(h2:∀c∈m.cl,c.length≤1000000)(h3:m.org.length≤1000000)(h4:∀c∈m.org,c.length≤1000000):aJ Tryz.prog 9 [ei t m,ei t m] fun r=>r = .bool true:=by
 have c1:=iO ⟨t.name,t.attrs,m.rows⟩ ⟨t.name,t.attrs,m.rows⟩ false false false false ha hr hl;rw[fR]at c1;have c2:=lists_s m.cl false h1 h2;have c3:=lists_s m.org false h3 h4;simp only[aD,ei,LS,LR,LLz]at c1 c2 c3 ⊢;refine sPx Tryz.func9 rfl rfl ?_;simp -dsimp[Tryz.f9,oE,LLz,LS,LR];refine cPx (c1) (by simp) ?_;simp -dsimp[];refine cPx (c2) (by simp) ?_;simp -dsimp[];refine cPx (c3) (by simp) ?_;simp -dsimp[]
theorem same_z:aJ Tryz.prog 9 [zMg,zMg] fun r=>r = .bool true:=by
 have c1:aJ Tryz.prog 22 [.agg [.str oF,.nilS,.nilS],.agg [.str oF,.nilS,.nilS]] fun r=>r = .bool true:=by
  have c0:aJ Tryz.prog 60 [.nilS,.nilS] fun r=>r = .bool true:=by
   refine sPx Tryz.func60 rfl rfl ?_;simp -dsimp[Tryz.f60,oE];refine aI (W_loopM 26 0x3fff830 (by simp[mB]<;>rfl) (σ:=Unit) (fun _=>True) (fun _=>0) (fun _=>[(5,.int .i64 0)]) (fun _=>[]) () trivial (by simp) rfl (by simp) ?_);rintro⟨⟩ _ N Q hN hQ;refine wx ?_;simp -dsimp[];refine hQ _ _ _ ?_;simp -dsimp[]
  refine sPx Tryz.func22 rfl rfl ?_;simp -dsimp[Tryz.f22,oE];refine cPx (c0) (by simp) ?_;simp -dsimp[];refine aI (W_loopM 47 0x7ffff0000030 (by simp[mB]<;>rfl) (σ:=Unit) (fun _=>True) (fun _=>0) (fun _=>[(5,.int .i64 0)]) (fun _=>[B.cells [.str oF,.nilS,.nilS],B.cells [.str oF,.nilS,.nilS]]) () trivial (by simp) rfl (by simp) ?_);rintro⟨⟩ _ N Q hN hQ;refine wx ?_;simp -dsimp[];refine hQ _ _ _ ?_;simp -dsimp[]
 have c2:aJ Tryz.prog 23 [.nilS,.nilS] fun r=>r = .bool true:=by
  refine sPx Tryz.func23 rfl rfl ?_;simp -dsimp[Tryz.f23,oE];refine aI (W_loopM 27 0x7fff830 (by simp[mB]<;>rfl) (σ:=Unit) (fun _=>True) (fun _=>0) (fun _=>[(5,.int .i64 0)]) (fun _=>[]) () trivial (by simp) rfl (by simp) ?_);rintro⟨⟩ _ N Q hN hQ;refine wx ?_;simp -dsimp[];refine hQ _ _ _ ?_;simp -dsimp[]
 simp only[zMg];refine sPx Tryz.func9 rfl rfl ?_;simp -dsimp[Tryz.f9,oE];refine cPx (c1) (by simp) ?_;simp -dsimp[];refine cPx (c2) (by simp) ?_;simp -dsimp[];refine cPx (c2) (by simp) ?_;simp -dsimp[]
end
end Go.Proofs.YtdnhplencamncaaGreatDoor
