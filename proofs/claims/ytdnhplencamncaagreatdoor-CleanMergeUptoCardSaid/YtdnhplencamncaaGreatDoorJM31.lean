/- JM31: own texts of this seat, joined and shortened by pack4.py: Svc, Svd. -/
import Derived.Test.YtdnhplencamncaaGreatDoorJM13
import Derived.Test.YtdnhplencamncaaGreatDoorJM23
set_option linter.unusedVariables false
set_option linter.unusedSimpArgs false
set_option maxRecDepth 100000
set_option maxHeartbeats 64000000
open ByteArray renaming empty→oF
open Int renaming toNat_natCast→qP
open List renaming replicate→oE,getElem_mem→oI,drop_eq_getElem_cons→oK,range→oM,take_succ_eq_append_getElem→oN,not_mem_nil→oO,mem_cons→oR,drop_of_length_le→oV,take_length→oY,map_append→oe,length_take→ot,mem_cons_self→ou,mem_cons_of_mem→ow,drop_zero→pC,nil_append→pH,mem_of_mem_take→pQ,length_filter_le→pf,cons_append→pg,range_succ→pv,filter_append→qC,take→qi,any_eq_false→rX
open Nat renaming lt_or_ge→pS,le_trans→pY,min_eq_left→qE
namespace Go.Proofs.YtdnhplencamncaaGreatDoor
section
open Go Go.AM
theorem capVl(n:Nat)(h:n≤1000000000):n≤9223372036854775806∧(n+1)*32≤140737488355328:=by omega
def vlZ:Vl:=⟨0,0,oF⟩
def ku(a:Nat)(r:Rw):Vl:=r.vals.getD a vlZ
def gJ(rs:List Rw)(a:Nat):List Vl:=(rs.map (ku a)).filter fun v=>!decide (v.k=0)
def lP(L:List Vl)(rule:Int):List Vl→Vl→Vl
 | [],b=>b
 | v::l,b=>lP L rule l (if betB L v b rule=true then v else b)
def chV(rs:List Rw)(a:Nat)(rule:Int):Vl:=match gJ rs a with
 | []=>vlZ
 | v::l=>lP (v::l) rule l v
def chI(rs:List Rw)(a:Nat)(rule:Int):Int:=match gJ rs a with
 | []=>(rs.getD 0 ⟨0,[]⟩).id
 | _::_=>(rs.getD (ixR (fun r=>dS (ku a r) (chV rs a rule)) rs 0).toNat ⟨0,[]⟩).id
theorem bestF_mem{L:List Vl}{rule:Int} : ∀{l:List Vl} {b:Vl},lP L rule l b=b∨lP L rule l b∈l
 | [],b=>.inl rfl
 | v::l,b=>by
  rw[lP]
  rcases bestF_mem (L:=L) (rule:=rule) (l:=l) (b:=if betB L v b rule=true then v else b) with h | h
  ·rw[h];split
   ·exact .inr (ou ..)
   ·exact .inl rfl
  ·exact .inr (ow _ h)
theorem chV_mem{rs:List Rw}{a:Nat}{rule:Int}(h:gJ rs a≠[]):∃r∈rs,chV rs a rule=ku a r:=by
 have hm:chV rs a rule∈gJ rs a:=by
  unfold chV
  cases hc:gJ rs a with
  | nil=>exact absurd hc h
  | cons v l =>
   simp only
   rcases bestF_mem (L:=v::l) (rule:=rule) (l:=l) (b:=v) with e | e
   ·rw[e];exact ou ..
   ·exact ow _ e
 obtain⟨r,hr,e⟩:=List.mem_map.1 (List.mem_filter.1 hm).1;exact⟨r,hr,e.symm⟩
theorem ixR_get{p:Rw→Bool}{rs:List Rw} : ∀(i:Nat),(∃j,i≤j∧∃h:j<rs.length,p rs[j]=true)→∃k:Nat,ixR p rs i=(k:Int)∧k<rs.length:=fun i=>by
 fun_induction ixR p rs i with
 | case1 i hi hp=>exact fun _=>⟨i,rfl,hi⟩
 | case2 i hi hp ih =>
  rintro⟨j,h1,h2,h3⟩;refine ih ⟨j,?_,h2,h3⟩
  rcases pS i j with h | h
  ·exact h
  ·obtain rfl:i=j:=by omega
   exact absurd h3 hp
 | case3 i hi=>rintro⟨j,h1,h2,h3⟩;omega
theorem eqVB_self(v:Vl):dS v v=true:=by simp[dS,ba_beqV]
theorem chcL_succ(rs:List Rw)(a i:Nat)(h:i<rs.length):gJ (rs.take (i+1)) a=if(ku a rs[i]).k=0 then gJ (rs.take i) a else gJ (rs.take i) a++[ku a rs[i]]:=by
 unfold gJ;rw[oN h,oe,qC];split
 ·rename_i h2;simp[h2]
 ·rename_i h2;simp[h2]
theorem chcL_len(rs:List Rw)(a:Nat):(gJ rs a).length≤rs.length:=by
 unfold gJ;exact pY (pf _ _) (by simp)
theorem pick_u(v:Vl)(r:Rw)(a:Nat)(b1 b2:B)(ha:a<r.vals.length):aL Tryz.prog (.fn 190 [.ptr 0 0,.ptr 3 0]) [aC r] [B.cells [.int .i64 (a:Int)],b1,b2,B.cells [.int .i64 v.k,.int .i64 v.n,.str v.s]]
  fun x H'=>x = .bool (dS (ku a r) v)∧∃G,H'=[B.cells [.int .i64 (a:Int)],b1,b2,B.cells [.int .i64 v.k,.int .i64 v.n,.str v.s]]++G:=by
 have hat:ku a r=r.vals[a]:=by simp[ku,ha]
 rw[hat];obtain⟨w,hw⟩:∃w,w=r.vals[a]:=⟨_,rfl⟩;rw[←hw];obtain⟨E,hE⟩:∃E,E=dS w v:=⟨_,rfl⟩;have he:dS ⟨w.k,w.n,w.s⟩ ⟨v.k,v.n,v.s⟩=E:=hE.symm;rw[←hE];simp only[aL,pg,pH,aC,LV];refine aE tok Tryz.func190 rfl rfl ?_;refine wx ?_;simp -dsimp[Tryz.f190,oE,ha,hw.symm,aF,eqVl,he];exact .inr (aS (by kernel_rfl))
theorem choose_u(rs:List Rw)(a:Nat)(rule:Int)(f:Bool)(h0:0<rs.length)(hl:rs.length≤1000000)(ha:∀r∈rs,a<r.vals.length)(ham:a≤1000000):
  aJ Tryz.prog 115 [LR f rs,.int .i64 (a:Int),.int .i64 rule] fun r=>r = .tup [aF (chV rs a rule),.int .i64 (chI rs a rule)]:=by
 obtain⟨cv,hcv⟩:∃cv,cv=chV rs a rule:=⟨_,rfl⟩;obtain⟨ci,hci⟩:∃ci,ci=chI rs a rule:=⟨_,rfl⟩;rw[←hcv,←hci];refine sPx Tryz.func115 rfl rfl ?_;simp -dsimp[Tryz.f115,oE,LR];refine aI (eI 79 3 [8] (by simp) (W_loopM 35 0x7fffc0d00 (by simp[mB]<;>rfl) (σ:=Nat) (fun i=>i≤rs.length) (fun i=>rs.length-i) (fun i=>[(18,.int .i64 i),(8,.buf 2 0 (gJ (rs.take i) a).length (gJ (rs.take i) a).length)]) (fun i=>[B.cells [.int .i64 (a:Int)],B.cells [.int .i64 0,.int .i64 0,.str oF],B.buf 79 3 ((gJ (rs.take i) a).map aF) false]) 0 (by omega) (by simp[gJ]) (by simp[gJ]) (by simp) ?_));intro i hi N Q hN hQ;have wi:=aP i (by omega);by_cases hb:i<rs.length
 ·have hs:=chcL_succ rs a i hb;have hle:=chcL_len (rs.take i) a;rw[ot,qE (by omega)]at hle;have hai:=ha _ (oI hb);obtain⟨y,hy⟩:∃y,y=rs[i]:=⟨_,rfl⟩;rw[←hy]at hs hai
  have hat:ku a y=y.vals[a]:=by simp[ku,hai]
  rw[hat]at hs;obtain⟨v,hv⟩:∃v,v=y.vals[a]:=⟨_,rfl⟩;rw[←hv]at hs;obtain⟨C,hC⟩:∃C,C=gJ (rs.take i) a:=⟨_,rfl⟩;rw[←hC]at hs hle ⊢;by_cases hk:v.k=0
  ·rw[if_pos hk]at hs;refine wx ?_;simp -dsimp[hb,hy.symm,aC,LV,hai,hv.symm,aF,hk,wi];refine hN (i+1) _ _ (by omega) (by omega) (by simp[hs]) ⟨[_,_],by rw[hs];rfl⟩ (by simp) (by simp)
  ·rw[if_neg hk]at hs;have cap:=capVl C.length (by omega);refine wx ?_;simp -dsimp[hb,hy.symm,aC,LV,hai,hv.symm,aF,hk,wi,cap.1,cap.2];refine hN (i+1) _ _ (by omega) (by omega) (by simp[hs]) ⟨[_,_],by rw[hs,oe];rfl⟩ (by simp) (by simp)
 ·obtain rfl:i=rs.length:=by omega
  have hcl:=chcL_len rs a;rw[oY];obtain⟨C,hC⟩:∃C,C=gJ rs a:=⟨_,rfl⟩
  have hcm:=fun h=>chV_mem (rs:=rs) (a:=a) (rule:=rule) h
  rw[←hcv]at hcm;unfold chI at hci;rw[←hcv]at hci;unfold chV at hcv;rw[←hC]at hcv hci hcl hcm ⊢;obtain⟨x0,hx0⟩:∃x,x=rs[0]:=⟨_,rfl⟩;refine eo 2 [8] rfl (by simp[dM]) ?_
  cases C with
  | nil =>
   simp only at hcv hci;rw[show(rs.getD 0 ⟨0,[]⟩)=rs[0] by simp[h0],←hx0]at hci;refine wx ?_;simp -dsimp[hb];refine hQ _ _ _ ?_;simp -dsimp[];refine aI (aX tok mixed [5] [(1,[1]),(2,[1]),(3,[1]),(4,[1])] [] (by kernel_rfl) fun C K hC hK=>?_);simp -implicitDefEqProofs [h0,hx0.symm,aC,LV];refine hK _ _ ?_;simp -dsimp[];simp[hcv,hci,vlZ,aF]
  | cons v l =>
   simp only at hcv hci
   have hll:l.length+1≤rs.length:=by simpa using hcl
   have hbt:=fun(x y:Vl)=>better_u (v::l) x y rule false (by simp;omega)
   obtain⟨L,hL⟩:∃L,L=v::l:=⟨_,rfl⟩;rw[←hL]at hcv hbt;simp only[LV,aF]at hbt
   have hLm:L.map aF = .agg [.int .i64 v.k,.int .i64 v.n,.str v.s]::l.map aF:=by rw[hL];rfl
   have hLl:L.length=l.length+1:=by rw[hL];rfl
   have hLf:¬L.length=0:=by omega
   rw[←hL];obtain⟨B2,hB2⟩:∃B2,B2=B.buf 79 3 (L.map aF) true:=⟨_,rfl⟩
   have hB2r:∀n,rbB n B2:=fun n=>by rw[hB2];simp[aF]
   have hHr:∀(x:Vl) (n:Nat),∀bl∈[B.cells [.int .i64 (a:Int)],B.cells [.int .i64 0,.int .i64 0,.str oF],B2,B.cells [.int .i64 x.k,.int .i64 x.n,.str x.s]],rbB n bl:=fun x n bl hb=>by
    simp only[oR,oO,or_false]at hb
    rcases hb with rfl | rfl | rfl | rfl
    ·simp
    ·simp
    ·exact hB2r n
    ·simp
   have htp:∀x∈qi l.length (l.map aF),AM.Pure x:=fun x hx=>by
    obtain⟨c,_,rfl⟩:=List.mem_map.1 (pQ hx);simp[aF]
   refine wx ?_;simp -dsimp[hb];refine hQ _ _ _ ?_;simp -dsimp[hLm,hLl,show ¬(l.length:Int)+1=0 by omega];simp only[←hLm,←hB2];refine aI (W_loopM 60 0xffe000000004000 (by simp[mB]<;>rfl) (σ:=Nat×Vl) (fun p=>p.1≤l.length∧lP L rule (l.drop p.1) p.2=cv) (fun p=>l.length-p.1) (fun p=>[(49,.int .i64 p.1)]) (fun p=>[B.cells [.int .i64 (a:Int)],B.cells [.int .i64 0,.int .i64 0,.str oF],B2,B.cells [.int .i64 p.2.k,.int .i64 p.2.n,.str p.2.s]]) (0,v) ⟨by simp,by rw[pC,hcv]⟩ (by simp) rfl (by simp) ?_);rintro⟨j,b⟩ ⟨hj,hx⟩ N2 Q2 hN2 hQ2;simp only at hj hx;have wj:=aP j (by omega);by_cases hbj:j<l.length
   ·rw[oK hbj,lP]at hx;obtain⟨w,hw⟩:∃w,w=l[j]:=⟨_,rfl⟩;rw[←hw]at hx;have cb:=hbt w b;cases hq:betB L w b rule
    ·rw[hq,if_neg (by simp)]at hx;rw[hq]at cb;refine wx ?_;simp -dsimp[hbj,hw.symm,aF];refine cPx (cb) (by simp) ?_;simp -dsimp[wj];refine hN2 (j+1,b) _ _ ⟨by simp only;omega,hx⟩ (by simp only;omega) (by simp) ⟨[_],rfl⟩ (by simp[aF];exact htp) (hHr _ _)
    ·rw[hq,if_pos rfl]at hx;rw[hq]at cb;refine wx ?_;simp -dsimp[hbj,hw.symm,aF];refine cPx (cb) (by simp) ?_;simp -dsimp[wj];refine hN2 (j+1,w) _ _ ⟨by simp only;omega,hx⟩ (by simp only;omega) (by simp) ⟨[_],rfl⟩ (by simp[aF];exact htp) (hHr _ _)
   ·rw[oV (by omega),lP]at hx;subst hx;obtain⟨r0,hr0,hr1⟩:=hcm (by simp);obtain⟨k,hk,hkl⟩:=ixR_get (p:=fun r=>dS (ku a r) b) (rs:=rs) 0 (by obtain⟨j,hj,e⟩:=List.mem_iff_getElem.1 hr0;exact⟨j,by omega,hj,by rw[e,←hr1];exact eqVB_self b⟩);rw[hk,qP,show rs.getD k ⟨0,[]⟩=rs[k] by simp[hkl]]at hci;have cp:=idxFuncR [B.cells [.int .i64 (a:Int)],B.cells [.int .i64 0,.int .i64 0,.str oF],B2,B.cells [.int .i64 b.k,.int .i64 b.n,.str b.s]] (.fn 190 [.ptr 0 0,.ptr 3 0]) (fun r=>dS (ku a r) b) rs f hl (hHr b _) (by simp[rb,rb1]) (fun m hm=>pick_u b m a _ _ (ha m hm));rw[hk]at cp;simp only[LR]at cp;obtain⟨y,hy⟩:∃y,y=rs[k]:=⟨_,rfl⟩;rw[←hy]at hci;refine wx ?_;simp -dsimp[hbj];refine hQ2 _ _ _ ?_;simp -dsimp[];refine bF cp ?_;rintro r H' ⟨rfl,G,rfl⟩;simp -dsimp[];refine aI (aX tok mixed [6] [(1,[1]),(2,[1]),(3,[1]),(4,[1]),(5,[1])] [] (by kernel_rfl) fun C K hC hK=>?_);simp -implicitDefEqProofs [hkl,hy.symm,aC,LV];refine hK _ _ ?_;simp -dsimp[];simp[hci,aF]
def kX(rs:List Rw)(us:List Int)(i:Nat):List Vl:=(oM i).map fun a=>chV rs a (us.getD a 0)
def ir(rs:List Rw)(us:List Int)(i:Nat):List Int:=(oM i).map fun a=>chI rs a (us.getD a 0)
def mgRw(rs:List Rw)(us:List Int):Rw:=⟨(rs.getD 0 ⟨0,[]⟩).id,kX rs us us.length⟩
structure MgOk (rs:List Rw) (us:List Int):Prop where
 pos:0<rs.length
 len:rs.length≤1000
 n:∀r∈rs,r.vals.length=us.length
 id:∀r∈rs,0<r.id
 asc:(rs.map (·.id)).Pairwise (· < ·)
 vs:∀r∈rs,∀v∈r.vals,aW v=true
 ul:us.length≤1000
 ur:∀u∈us,iU u=true
theorem mgVs_succ(rs:List Rw)(us:List Int)(i:Nat):kX rs us (i+1)=kX rs us i++[chV rs i (us.getD i 0)]:=by simp[kX,pv]
theorem mgOs_succ(rs:List Rw)(us:List Int)(i:Nat):ir rs us (i+1)=ir rs us i++[chI rs i (us.getD i 0)]:=by simp[ir,pv]
theorem mgVs_len(rs:List Rw)(us:List Int)(i:Nat):(kX rs us i).length=i:=by simp[kX]
theorem mgOs_len(rs:List Rw)(us:List Int)(i:Nat):(ir rs us i).length=i:=by simp[ir]
theorem capI8(n:Nat)(h:n≤1000000000):n≤9223372036854775806∧(n+1)*8≤140737488355328:=by omega
theorem merge_u(rs:List Rw)(us:List Int)(f g:Bool)(h:MgOk rs us):
  aJ Tryz.prog 57 [LR f rs,L1 g us] fun r=>r = .tup [aC (mgRw rs us),L1 false (ir rs us us.length),.int .i64 0]:=by
 obtain⟨h0,hl,hn,hid,hasc,hvs,hul,hur⟩:=h;have c1:=checkRows_u rs us.length f h0 (by omega) hn;have c2:=checkValues_u rs f (by omega) hid hasc (fun r hr=>⟨by rw[hn r hr];omega,hvs r hr⟩);have c3:=nb [B.cells [.int .i64 0,.nilS]] (.fn 114 []) (fun r=>!iU r) us g (by omega) (by simp) (by simp[rb,rb1]) (fun m _=>badR2 m _)
 have hany:us.any (fun r=>!iU r)=false:=by
  rw[rX];intro u hu;simp[hur u hu]
 rw[hany]at c3
 have hx0:rs.getD 0 ⟨0,[]⟩=rs[0]:=by simp[h0]
 obtain⟨x0,hx⟩:∃x,x=rs[0]:=⟨_,rfl⟩;have hxn:=hn x0 (by rw[hx];exact oI h0);obtain⟨R,hR⟩:∃R,R=mgRw rs us:=⟨_,rfl⟩
 have hRe:aC R = .agg [.int .i64 x0.id,.lst 3 false ((kX rs us us.length).map aF)]:=by rw[hR];simp[mgRw,aC,LV,hx,h0]
 rw[←hR];clear hR;simp only[LR,L1]at c1 c2 c3;refine sPx Tryz.func57 rfl rfl ?_;simp -dsimp[Tryz.f57,oE,LR,L1];refine cPx (c1) (by simp) ?_;simp -dsimp[h0,hx.symm,hxn,aC,LV];refine cPx (c2) (by simp) ?_;simp -dsimp[];refine bF c3 ?_;rintro r H' ⟨rfl,rfl⟩;simp -dsimp[h0,hx.symm,aC,LV];refine aI (dL 79 3 [] 1 [1] rfl (cD _ _) (by simp) (eI 2 1 [10] (by simp) (W_loopM 69 0x1fffffc00000007c00 (by simp[mB]<;>rfl) (σ:=Nat) (fun i=>i≤us.length) (fun i=>us.length-i) (fun i=>[(46,.int .i64 i),(10,.buf 3 0 i i)]) (fun i=>[B.cells [.int .i64 0,.nilS],B.cells [.int .i64 x0.id,.buf 2 0 i i],B.buf 79 3 ((kX rs us i).map aF) false,B.buf 2 1 ((ir rs us i).map aQ) false]) 0 (by omega) (by simp) (by simp[kX,ir]) (by simp) ?_)));intro i hi N Q hN hQ;have wi:=aP i (by omega);have hvl:=mgVs_len rs us i;have hol:=mgOs_len rs us i;by_cases hb:i<us.length
 ·have hv1:=mgVs_succ rs us i;have ho1:=mgOs_succ rs us i
  have hu:us.getD i 0=us[i]:=by simp[hb]
  obtain⟨u,hue⟩:∃u,u=us[i]:=⟨_,rfl⟩;rw[hu,←hue]at hv1 ho1;have cc:=choose_u rs i u f h0 (by omega) (fun r hr=>by rw[hn r hr];exact hb) (by omega);obtain⟨v,hv⟩:∃v,v=chV rs i u:=⟨_,rfl⟩;obtain⟨o,ho⟩:∃o,o=chI rs i u:=⟨_,rfl⟩;rw[←hv,←ho]at cc;rw[←hv]at hv1;rw[←ho]at ho1;simp only[LR,aF]at cc;have cap1:=capVl i (by omega);have cap2:=capI8 i (by omega);obtain⟨M,hM⟩:∃M,M=kX rs us i:=⟨_,rfl⟩;obtain⟨O,hO⟩:∃O,O=ir rs us i:=⟨_,rfl⟩;rw[←hM]at hv1 hvl ⊢;rw[←hO]at ho1 hol ⊢;refine wx ?_;simp -dsimp[hb,hue.symm,aQ];refine cPx (cc) (by simp) ?_;simp -dsimp[hvl,hol,cap1.1,cap1.2,cap2.1,cap2.2,wi];refine hN (i+1) _ _ (by omega) (by omega) (by simp) ⟨[_],by rw[hv1,ho1,oe,oe];rfl⟩ (by simp) (by simp[aQ])
 ·obtain rfl:i=us.length:=by omega
  obtain⟨M,hM⟩:∃M,M=kX rs us us.length:=⟨_,rfl⟩;obtain⟨O,hO⟩:∃O,O=ir rs us us.length:=⟨_,rfl⟩;rw[←hM]at hvl hRe ⊢;rw[←hO]at hol ⊢;refine eG 2 [] 1 [1] rfl rfl (by simp) (by simp[hvl]) ?_;refine eo 3 [10] rfl (by simp[dM,hol]) ?_;refine wx ?_;simp -dsimp[hb];refine hQ _ _ _ ?_;simp -dsimp[];simp[hRe];rw[hO];rfl
end
end Go.Proofs.YtdnhplencamncaaGreatDoor
