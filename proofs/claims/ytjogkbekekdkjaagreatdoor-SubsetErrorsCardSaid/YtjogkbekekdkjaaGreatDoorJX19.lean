/- JX19: own texts of this seat, joined and shortened by pack4.py: CV, CW, CX. -/
import Derived.Test.YtjogkbekekdkjaaGreatDoorJX17
import Derived.Test.YtjogkbekekdkjaaGreatDoorJX18
set_option linter.unusedVariables false
set_option linter.unusedSimpArgs false
set_option maxRecDepth 100000
set_option maxHeartbeats 64000000
open Bool renaming and_eq_true→rX,false_and→rZ,true_and→re,not_false→uP,not_true→vL
open Int renaming eq_ofNat_of_zero_le→su
open List renaming replicate→rO,drop_eq_getElem_cons→rP,getElem_mem→rQ,drop_of_length_le→rR,not_mem_nil→rS,mem_cons→rU,length_append→ri,append_nil→rj,drop_zero→rk,take_of_length_le→rt,nil_append→rx,length_filter_le→rz,length_map→sK,cons_append→sP,all_cons→sZ,mem_of_mem_drop→sh,filter_cons_of_pos→sq,filter_cons_of_neg→sr,map_nil→tt,filter_nil→uI,all_nil→uL
open Nat renaming le_trans→sF,add_assoc→tJ
namespace Go.Proofs.YtjogkbekekdkjaaGreatDoor
section
open Go Go.AM
structure CfOk (n:Nat) (c:Cfd):Prop where
 p:c.p.length=c.l.length+1
 l:gd n c.l
 r0:0≤c.r
 r1:c.r<n
 lb:c.l.length≤1000000
theorem cf_ok{n:Nat}{c:Cfd}(h:cfB n c=true)(hl:c.l.length≤1000000):CfOk n c:=by
 unfold cfB at h;simp only[rX,decide_eq_true_eq]at h;exact⟨h.2.2.1,ascI_ats (b:=-1) (by omega) h.2.2.2.1,h.1,h.2.1,hl⟩
theorem alone16(c:Cfd)(r:Rw)(f g f2:Bool)(n:Nat)(h:CfOk n c)(hv:r.vals.length=n)(hs:∀v∈r.vals,v.s.size≤maxLen):aL Tryz.prog 205 [ah f g c,LV f2 r.vals] fun x=>x = .bool (gv c r):=by
 have c1:=left16 c r f g f2 n hv h.l h.p h.lb hs;obtain⟨k,hk⟩:=su h.r0;have hr1:=h.r1
 have hkv:k<r.vals.length:=by omega
 have hip:c.l.length<c.p.length:=by have:=h.p;omega
 have hce:oN c.p c.l.length=c.p[c.l.length]:=by simp[oN,hip]
 have hsz:=hs _ (rQ hkv);obtain⟨x,hxx⟩:∃x,x=r.vals[k]:=⟨_,rfl⟩;rw[←hxx]at hsz;obtain⟨m,hm⟩:∃m,m=c.l.length:=⟨_,rfl⟩;simp only[←hm]at hip hce;obtain⟨y,hyy⟩:∃y,y=c.p[m]:=⟨_,rfl⟩;have c2:=fits16 x y hsz
 have hrt:ia c r=clF y x:=by unfold ia;rw[←hm,hce,hk,cQ hkv,←hxx,←hyy]
 simp only[ah,L1,LCl,LV,aX,ao]at c1 c2;unfold gv;rw[hrt]
 cases h1:fy c r with
 | false =>
  rw[h1]at c1;refine sPx Tryz.func205 rfl rfl ?_;simp -dsimp[Tryz.f205,rO,ah,L1,LCl,LV];refine .inr ⟨aC (by kernel_rfl),?_⟩;refine aN _ (aK (c1) (by simp)) ?_;simp -dsimp[]
 | true =>
  rw[h1]at c1;refine sPx Tryz.func205 rfl rfl ?_;simp -dsimp[Tryz.f205,rO,ah,L1,LCl,LV];refine .inr ⟨aC (by kernel_rfl),?_⟩;refine aN _ (aK (c1) (by simp)) ?_;simp -dsimp[hk,hkv,hxx.symm,aX,hm.symm,hip,hyy.symm,ao];refine aN _ (aK (c2) (by simp)) ?_;simp -dsimp[]
theorem pair16(c:Cfd)(a b:Rw)(f g fa fb:Bool)(n:Nat)(h:CfOk n c)(hva:a.vals.length=n)(hvb:b.vals.length=n)(hsa:∀v∈a.vals,v.s.size≤maxLen)(hsb:∀v∈b.vals,v.s.size≤maxLen):aL Tryz.prog 206 [ah f g c,LV fa a.vals,LV fb b.vals] fun x=>x = .bool (ij c a b):=by
 have c1:=left16 c a f g fa n hva h.l h.p h.lb hsa;have c2:=left16 c b f g fb n hvb h.l h.p h.lb hsb;obtain⟨k,hk⟩:=su h.r0;have hr1:=h.r1
 have hka:k<a.vals.length:=by omega
 have hkb:k<b.vals.length:=by omega
 obtain⟨x,hxx⟩:∃x,x=a.vals[k]:=⟨_,rfl⟩;obtain⟨y,hyy⟩:∃y,y=b.vals[k]:=⟨_,rfl⟩
 have hsx:x.s.size≤maxLen:=by rw[hxx];exact hsa _ (rQ hka)
 have c3:=fW x y hsx
 have hpf:fm c a b=(!ey x y&&c.l.all fun k=>ey (vAt a.vals k.toNat) (vAt b.vals k.toNat)):=by unfold fm;rw[hk,cQ hka,cQ hkb,←hxx,←hyy]
 simp only[ah,L1,LCl,LV,aX]at c1 c2 c3;unfold ij;rw[hpf]
 cases h1:fy c a with
 | false =>
  rw[h1]at c1;refine sPx Tryz.func206 rfl rfl ?_;simp -dsimp[Tryz.f206,rO,ah,L1,LCl,LV];refine .inr ⟨aC (by kernel_rfl),?_⟩;refine aN _ (aK (c1) (by simp)) ?_;simp -dsimp[]
 | true =>
  rw[h1]at c1
  cases h2:fy c b with
  | false =>
   rw[h2]at c2;refine sPx Tryz.func206 rfl rfl ?_;simp -dsimp[Tryz.f206,rO,ah,L1,LCl,LV];refine .inr ⟨aC (by kernel_rfl),?_⟩;refine aN _ (aK (c1) (by simp)) ?_;simp -dsimp[];refine aN _ (aK (c2) (by simp)) ?_;simp -dsimp[]
  | true =>
   rw[h2]at c2;rw[eqVB_cmp x y];obtain⟨q,hq⟩:∃q,q=eX x y:=⟨_,rfl⟩;rw[←hq]at c3 ⊢;by_cases h3:q=0
   ·rw[decide_eq_true h3];refine sPx Tryz.func206 rfl rfl ?_;simp -dsimp[Tryz.f206,rO,ah,L1,LCl,LV];refine .inr ⟨aC (by kernel_rfl),?_⟩;refine aN _ (aK (c1) (by simp)) ?_;simp -dsimp[];refine aN _ (aK (c2) (by simp)) ?_;simp -dsimp[hk,hka,hkb,hxx.symm,hyy.symm,aX];refine aN _ (aK (c3) (by simp)) ?_;simp -dsimp[h3]
   ·rw[decide_eq_false h3]
    obtain⟨E,hE⟩:∃E,E=c.l.all fun k=>ey (vAt a.vals k.toNat) (vAt b.vals k.toNat):=⟨_,rfl⟩
    rw[←hE];refine sPx Tryz.func206 rfl rfl ?_;simp -dsimp[Tryz.f206,rO,ah,L1,LCl,LV];refine .inr ⟨aC (by kernel_rfl),?_⟩;refine aN _ (aK (c1) (by simp)) ?_;simp -dsimp[];refine aN _ (aK (c2) (by simp)) ?_;simp -dsimp[hk,hka,hkb,hxx.symm,hyy.symm,aX];refine aN _ (aK (c3) (by simp)) ?_;simp -dsimp[h3];refine aG (W_loopM 57 0x1ffffff000000c0 (by simp[mB]<;>rfl) (σ:=Nat) (fun i=>(c.l.drop i).all (fun k=>ey (vAt a.vals k.toNat) (vAt b.vals k.toNat))=E) (fun i=>c.l.length-i) (fun i=>[(7,.int .i64 i)]) (fun _=>[B.cells [.lst 1 f (c.l.map aE),.int .i64 c.r,.lst 4 g (c.p.map ao)]]) 0 (by rw[hE,rk]) (by simp) (by simp[hk]) (by simp) ?_);have hlb:=h.lb;intro i hx N Q hN hQ;by_cases hi:i<c.l.length
    ·rw[rP hi,sZ]at hx;obtain⟨u1,u2⟩:=h.l _ (rQ hi);obtain⟨j,hj⟩:=su u1
     have hja:j<a.vals.length:=by omega
     have hjb:j<b.vals.length:=by omega
     rw[hj,cQ hja,cQ hjb]at hx;obtain⟨v,hv⟩:∃v,v=a.vals[j]:=⟨_,rfl⟩;obtain⟨w,hw⟩:∃w,w=b.vals[j]:=⟨_,rfl⟩;rw[←hv,←hw,eqVB_cmp]at hx
     have hsv:v.s.size≤maxLen:=by rw[hv];exact hsa _ (rQ hja)
     have c4:=fW v w hsv;simp only[aX]at c4;obtain⟨z,hz⟩:∃z,z=eX v w:=⟨_,rfl⟩;rw[←hz]at c4 hx;by_cases h4:z=0
     ·rw[decide_eq_true h4,re]at hx;refine wx ?_;simp -dsimp[hi,hj,aE,aX,hja,hjb,hv.symm,hw.symm];refine .inr ⟨aC (by kernel_rfl),?_⟩;refine aN _ (aK (c4) (by simp)) ?_;simp -dsimp[h4,aH i (by omega)];refine hN (i+1) _ _ hx (by omega) (by simp) ⟨_,rfl⟩ (by simp[aE]) (by simp[aE])
     ·rw[decide_eq_false h4,rZ]at hx;refine wx ?_;simp -dsimp[hi,hj,aE,aX,hja,hjb,hv.symm,hw.symm];refine .inr ⟨aC (by kernel_rfl),?_⟩;refine aN _ (aK (c4) (by simp)) ?_;simp -dsimp[h4];refine hQ _ _ _ ?_;simp -dsimp[];rw[←hx]
    ·rw[rR (by omega),uL]at hx;refine wx ?_;simp -dsimp[hi];refine hQ _ _ _ ?_;simp -dsimp[];rw[←hx]
theorem pclo_u(a b:Rw)(fa fb:Bool)(b0:B)(n:Nat)(hva:a.vals.length=n)(hvb:b.vals.length=n)(k:Int)(h0:0≤k)(h1:k<n):
  aQ Tryz.prog (.fn 240 [.ptr 1 0,.ptr 2 0]) [.int .i64 k] [b0,B.cells [LV fa a.vals],B.cells [LV fb b.vals]] fun r H'=>r = .bool (!ey (vAt a.vals k.toNat) (vAt b.vals k.toNat))∧H'=[b0,B.cells [LV fa a.vals],B.cells [LV fb b.vals]]:=by
 obtain⟨j,hj⟩:=su h0
 have hja:j<a.vals.length:=by omega
 have hjb:j<b.vals.length:=by omega
 rw[hj,cQ hja,cQ hjb];obtain⟨v,hv⟩:∃v,v=a.vals[j]:=⟨_,rfl⟩;obtain⟨w,hw⟩:∃w,w=b.vals[j]:=⟨_,rfl⟩;rw[←hv,←hw];simp only[aQ,sP,rx,LV]
 cases he:ey ⟨v.k,v.n,v.s⟩ ⟨w.k,w.n,w.s⟩ with
 | true =>
  refine aF tok Tryz.func240 rfl rfl ?_;refine wx ?_;simp -dsimp[Tryz.f240,rO,hja,hjb,hv.symm,hw.symm,aX,oM,he];exact .inr (aC (by kernel_rfl))
 | false =>
  refine aF tok Tryz.func240 rfl rfl ?_;refine wx ?_;simp -dsimp[Tryz.f240,rO,hja,hjb,hv.symm,hw.symm,aX,oM,he];exact .inr (aC (by kernel_rfl))
theorem pairC_u(c:Cfd)(a b:Rw)(f g fa fb:Bool)(n:Nat)(h:CfOk n c)(hva:a.vals.length=n)(hvb:b.vals.length=n):aL Tryz.prog 189 [ah f g c,LV fa a.vals,LV fb b.vals] fun x=>x = .bool (fm c a b):=by
 obtain⟨k,hk⟩:=su h.r0;have hr1:=h.r1
 have hka:k<a.vals.length:=by omega
 have hkb:k<b.vals.length:=by omega
 obtain⟨x,hxx⟩:∃x,x=a.vals[k]:=⟨_,rfl⟩;obtain⟨y,hyy⟩:∃y,y=b.vals[k]:=⟨_,rfl⟩
 have hpf:fm c a b=(!ey x y&&c.l.all fun k=>ey (vAt a.vals k.toNat) (vAt b.vals k.toNat)):=by unfold fm;rw[hk,cQ hka,cQ hkb,←hxx,←hyy]
 rw[hpf,←mw];have hc:=cont_I [B.cells [.lst 1 f (c.l.map aE),.int .i64 c.r,.lst 4 g (c.p.map ao)],B.cells [LV fa a.vals],B.cells [LV fb b.vals]] (.fn 240 [.ptr 1 0,.ptr 2 0]) (fun k=>!ey (vAt a.vals k.toNat) (vAt b.vals k.toNat)) c.l f h.lb (by simp[LV,aE]) (by simp) (fun m hm=>pclo_u a b fa fb _ n hva hvb m (h.l m hm).1 (h.l m hm).2)
 obtain⟨u,hu⟩:∃u,u=c.l.any fun k=>!ey (vAt a.vals k.toNat) (vAt b.vals k.toNat):=⟨_,rfl⟩
 rw[←hu]at hc ⊢;simp only[L1,LV,hk]at hc
 cases he:ey ⟨x.k,x.n,x.s⟩ ⟨y.k,y.n,y.s⟩ with
 | true =>
  refine sPx Tryz.func189 rfl rfl ?_;simp -dsimp[Tryz.f189,rO,ah,L1,LCl,LV,hk,hka,hkb,hxx.symm,hyy.symm,aX,oM,he];exact .inr (aC (by kernel_rfl))
 | false =>
  refine sPx Tryz.func189 rfl rfl ?_;simp -dsimp[Tryz.f189,rO,ah,L1,LCl,LV,hk,hka,hkb,hxx.symm,hyy.symm,aX,oM,he];refine .inl (aG (aW tok mixed [15] [] [(.bool u,[B.cells [.lst 1 f (c.l.map aE),.int .i64 (k:Int),.lst 4 g (c.p.map ao)],B.cells [.lst 3 fa (a.vals.map aX)],B.cells [.lst 3 fb (b.vals.map aX)]])] (by kernel_rfl) fun C K hC hK=>?_));simp -implicitDefEqProofs [hk,hka,hkb,hxx.symm,hyy.symm,aX,oM,he];refine⟨hC _ _ _ _ hc,hK _ _ ?_⟩;simp -dsimp[]
def ccB(c:Cfd)(f g:Bool):B:=B.cells [.lst 1 f (c.l.map aE),.int .i64 c.r,.lst 4 g (c.p.map ao)]
theorem ccB_rb(n:Nat)(c:Cfd)(f g:Bool):rbB n (ccB c f g):=fun x hc=>by
 simp only[rU,rS,or_false]at hc
 rcases hc with rfl | rfl | rfl<;>simp[rb,rb1,aE]
theorem fil_cons{α β:Type}{p:α→Bool}{q:α→β}{R:List α}{i:Nat}(h:i<R.length):((R.drop i).filter p).map q=(if p R[i]=true then [q R[i]] else [])++((R.drop (i+1)).filter p).map q:=by
 rw[rP h];by_cases hp:p R[i]=true
 ·rw[sq hp,if_pos hp];rfl
 ·rw[sr hp,if_neg hp];rfl
theorem viol16(t:Tb)(c:Cfd)(f g f2 g2:Bool)(h:TbS t)(hl:c.l.length≤1000000)(hp:c.p.length≤1000000)(hv:aZ t=0)(ho:cfB t.attrs.length c=true):aL Tryz.prog 144 [aD f g t,ah f2 g2 c] fun r=>r = .tup [LL false (ng c t.rows),.int .i64 0]:=by
 refine mn ?_;have ct:=tbC hv;have ck:=cf_ok ho hl;have c1:=iS t f g h.ok;rw[hv]at c1;have c2:=valid16 t.attrs.length c f2 g2 ct.wide hl hp;rw[ho]at c2;simp only[aD,LR,LS,ah,L1,LCl]at c1 c2;obtain⟨R,hR⟩:∃R,R=t.rows:=⟨_,rfl⟩
 have htB:tcB t f g = .cells [.str t.name,.lst 1 f (t.attrs.map V.str),.lst 2 g (R.map aI)]:=by rw[hR];rfl
 obtain⟨S1,hS1⟩:∃S1,S1=(R.filter (gv c)).map fun r=>[r.id]:=⟨_,rfl⟩
 obtain⟨E,hE⟩:∃E,E=ng c R:=⟨_,rfl⟩
 have hR8:R.length≤8:=by rw[hR];exact h.few
 have hE64:E.length≤72:=by rw[hE];have:=qj c R;have:=sq8 hR8;omega
 have hS8:S1.length≤8:=by rw[hS1,sK];exact sF (rz _ _) hR8
 have hES:S1++prL (ij c) R=E:=by rw[hE,jy,hS1]
 have hlen:∀r∈R,r.vals.length=t.attrs.length:=by rw[hR];exact ct.len
 have hsz:∀r∈R,∀v∈r.vals,v.s.size≤maxLen:=by rw[hR];exact h.sz
 rw[←hR]at c1 ⊢;rw[←hE]
 have hrb:∀o:List (List Int),∀bl∈[B.cells [.str t.name,.lst 1 f (t.attrs.map V.str),.lst 2 g (R.map aI)],B.cells [.lst 1 f2 (c.l.map aE),.int .i64 c.r,.lst 4 g2 (c.p.map ao)],B.buf 34 1 (o.map (L1 true)) false],rbB 3 bl:=fun o bl hbl=>by
  simp only[rU,rS,or_false]at hbl
  rcases hbl with rfl | rfl | rfl
  ·rw[←htB];exact bS _ _ _ _
  ·exact ccB_rb _ _ _ _
  ·exact nA _ _ _
 refine ay (aF (tkf 34) Tryz.func144 rfl rfl ?_);refine W_x (tkf 34) mixed ?_;simp -dsimp[Tryz.f144,rO,aD,ah,LR,LS,LCl,hR.symm,L1,aM];refine cPx (c1) (by simp) ?_;simp -dsimp[L1,aM];refine cPx (c2) (by simp) ?_;simp -dsimp[L1,aM];refine aG (bf 34 1 [7] (by simp) (W_loopM 47 0x7fffffc00180 (by simp[mB]<;>rfl) (σ:=Nat×List (List Int)) (fun p=>p.2++((R.drop p.1).filter (gv c)).map (fun r=>[r.id])=S1) (fun p=>R.length-p.1) (fun p=>[(8,.int .i64 p.1),(7,.buf 2 0 p.2.length p.2.length)]) (fun p=>[B.cells [.str t.name,.lst 1 f (t.attrs.map V.str),.lst 2 g (R.map aI)],B.cells [.lst 1 f2 (c.l.map aE),.int .i64 c.r,.lst 4 g2 (c.p.map ao)],B.buf 34 1 (p.2.map (L1 true)) false]) (0,[]) (by rw[hS1];rfl) (by simp) (by simp) (by simp) ?_));rintro⟨i,out⟩ hx N Q hN hQ;simp only at hx;by_cases hb:i<R.length
 ·rw[fil_cons hb]at hx;have hri:=hlen _ (rQ hb);have hsi:=hsz _ (rQ hb);obtain⟨r,hre⟩:∃r,r=R[i]:=⟨_,rfl⟩;rw[←hre]at hx hri hsi;have c3:=alone16 c r f2 g2 false t.attrs.length ck hri hsi;simp only[ah,L1,LCl,LV]at c3
  have hol:out.length≤8:=by rw[←hx]at hS8;simp only[ri]at hS8;omega
  cases hq:gv c r with
  | false =>
   rw[hq]at c3 hx;rw[if_neg (by simp),rx]at hx;refine W_x (tkf 34) mixed ?_;simp -dsimp[hb,hre.symm,aI,LV,L1,aM];refine .inr ⟨aC (by kernel_rfl),?_⟩;refine aN _ (aK (c3) (by simp)) ?_;simp -dsimp[aH i (by omega),L1,aM];refine hN (i+1,out) _ _ hx (by simp only;omega) (by simp) ⟨[],by simp⟩ (by simp) (hrb _)
  | true =>
   rw[hq]at c3 hx;rw[if_pos rfl]at hx;refine W_x (tkf 34) mixed ?_;simp -dsimp[hb,hre.symm,aI,LV,L1,aM];refine .inr ⟨aC (by kernel_rfl),?_⟩;refine aN _ (aK (c3) (by simp)) ?_;simp -dsimp[hb,hre.symm,aI,LV,fI out.length (by omega),ai out.length (by omega),aH i (by omega),L1,aM];refine hN (i+1,out++[[r.id]]) _ _ (by rw[←hx];simp) (by simp only;omega) (by simp) ⟨[],by simp[aE,L1]⟩ (by simp) (hrb _)
 ·rw[rR (show R.length≤i by omega),uI,tt,rj]at hx;subst hx;refine W_x (tkf 34) mixed ?_;simp -dsimp[hb,L1,aM];refine hQ _ _ _ ?_;simp -dsimp[L1,aM];refine aG (W_loopM 93 0x1fffffffffff800000000680 (by simp[mB]<;>rfl) (σ:=Nat×List (List Int)) (fun p=>p.2++prL (ij c) (R.drop p.1)=E) (fun p=>R.length-p.1) (fun p=>[(9,.int .i64 p.1),(7,.buf 2 0 p.2.length p.2.length)]) (fun p=>[B.cells [.str t.name,.lst 1 f (t.attrs.map V.str),.lst 2 g (R.map aI)],B.cells [.lst 1 f2 (c.l.map aE),.int .i64 c.r,.lst 4 g2 (c.p.map ao)],B.buf 34 1 (p.2.map (L1 true)) false]) (0,out) (by simpa using hES) (by simp) (by simp) (by simp) ?_);rintro⟨i,out⟩ hx N Q hN hQ;simp only at hx;by_cases hb:i<R.length
  ·rw[ly hb]at hx;have hri:=hlen _ (rQ hb);have hsi:=hsz _ (rQ hb);obtain⟨r,hre⟩:∃r,r=R[i]:=⟨_,rfl⟩;rw[←hre]at hx hri hsi;refine W_x (tkf 34) mixed ?_;simp -dsimp[hb,aH i (by omega),L1,aM];refine aG (W_loopM 93 0x1fffffffff00000000000480 (by simp[mB]<;>rfl) (σ:=Nat×List (List Int)) (fun p=>i<p.1∧p.2++((((R.drop p.1).filter (ij c r)).map fun s=>[r.id,s.id])++prL (ij c) (R.drop (i+1)))=E) (fun p=>R.length-p.1) (fun p=>[(10,.int .i64 p.1),(7,.buf 2 0 p.2.length p.2.length)]) (fun p=>[B.cells [.str t.name,.lst 1 f (t.attrs.map V.str),.lst 2 g (R.map aI)],B.cells [.lst 1 f2 (c.l.map aE),.int .i64 c.r,.lst 4 g2 (c.p.map ao)],B.buf 34 1 (p.2.map (L1 true)) false]) (i+1,out) ⟨by simp,hx⟩ (by simp) (by simp) (by simp) ?_);rintro⟨k,o2⟩ ⟨hk0,hx2⟩ N2 Q2 hN2 hQ2;simp only at hk0 hx2;by_cases hkb:k<R.length
   ·rw[kS hkb]at hx2;have hrk:=hlen _ (rQ hkb);have hsk:=hsz _ (rQ hkb);obtain⟨s,hse⟩:∃s,s=R[k]:=⟨_,rfl⟩;rw[←hse]at hx2 hrk hsk;have c4:=pair16 c r s f2 g2 false false t.attrs.length ck hri hrk hsi hsk;simp only[ah,L1,LCl,LV]at c4
    have ho2:o2.length≤72:=by rw[←hx2]at hE64;simp only[ri]at hE64;omega
    cases hq:ij c r s with
    | false =>
     rw[hq]at c4 hx2;rw[if_neg (by simp),rx]at hx2;refine W_x (tkf 34) mixed ?_;simp -dsimp[hb,hkb,hre.symm,hse.symm,aI,LV,L1,aM];refine .inr ⟨aC (by kernel_rfl),?_⟩;refine aN _ (aK (c4) (by simp)) ?_;simp -dsimp[aH k (by omega),L1,aM];refine hN2 (k+1,o2) _ _ ⟨by simp only;omega,hx2⟩ (by simp only;omega) (by simp) ⟨[],by simp⟩ (by simp) (hrb _)
    | true =>
     rw[hq]at c4 hx2;rw[if_pos rfl]at hx2;refine W_x (tkf 34) mixed ?_;simp -dsimp[hb,hkb,hre.symm,hse.symm,aI,LV,L1,aM];refine .inr ⟨aC (by kernel_rfl),?_⟩;refine aN _ (aK (c4) (by simp)) ?_;simp -dsimp[L1,aM];refine aG (aW (tkf 34) mixed [15] [] [] (by kernel_rfl) fun C K hC hK=>?_);simp -implicitDefEqProofs [hb,hkb,hre.symm,hse.symm,aI,LV,fI o2.length (by omega),ai o2.length (by omega),L1,aM];refine hK _ _ ?_;simp -dsimp[aH k (by omega),L1,aM];refine hN2 (k+1,o2++[[r.id,s.id]]) _ _ ⟨by simp only;omega,by rw[←hx2];simp⟩ (by simp only;omega) (by simp) ⟨[],by simp[aE,L1]⟩ (by simp) (hrb _)
   ·rw[rR (show R.length≤k by omega)]at hx2;refine W_x (tkf 34) mixed ?_;simp -dsimp[hkb,L1,aM];refine hQ2 _ _ _ ?_;simp -dsimp[aH i (by omega),L1,aM];refine hN (i+1,o2) _ _ (by simpa using hx2) (by simp only;omega) (by simp) ⟨[],by simp⟩ (by simp) (hrb _)
  ·rw[rR (show R.length≤i by omega),prL,rj]at hx;subst hx;refine cy 2 [7] rfl (by simp) ?_;refine W_x (tkf 34) mixed ?_;simp -dsimp[hb,L1,aM];refine hQ _ _ _ ?_;simp -dsimp[LT,L1,aM]
   skip
theorem rows_rb(n:Nat)(e:Nat)(ms:List Rw)(fz:Bool):rbB n (.buf e 2 (ms.map aI) fz):=by
 intro x hx;obtain⟨y,_,rfl⟩:=List.mem_map.1 hx;intro c hc;simp only[aI,V.cells,rU,rS,or_false]at hc
 rcases hc with rfl | rfl<;>simp[rb,rb1,LV]
theorem nX{H:List B}{a a':V}{k:IntKind}{n:Int}(h:ExpX H a a'):ExpX H (.tup [a,.int k n]) (.tup [a',.int k n]):=.tup _ _ rfl (fun i x y hx hy=>by
 match i with
 | 0=>simp at hx hy;subst hx;subst hy;exact h
 | 1=>simp at hx hy;subst hx;subst hy;exact .pure _ (.int _ _)
 | i+2=>simp at hx)
theorem cap32r(n:Nat)(h:n≤1000000000):n≤9223372036854775806∧(n+1)*32≤140737488355328:=by omega
theorem violC_u(t:Tb)(c:Cfd)(f g f2 g2:Bool)(h:TbS t)(hl:c.l.length≤1000000)(hp:c.p.length≤1000000)(hv:aZ t=0)(ho:cfB t.attrs.length c=true):aL Tryz.prog 130 [aD f g t,ah f2 g2 c] fun r=>r = .tup [LL false (ng c t.rows),.int .i64 0]:=by
 refine mn ?_;have ct:=tbC hv;have ck:=cf_ok ho hl;have c1:=iT t f g h.ok;rw[hv]at c1;have c2:=validC_u t.attrs.length c f2 g2 ct.wide hl hp;rw[ho]at c2;have cr:=right_u c f2 g2 ck.p;simp only[aD,LR,LS,ah,L1,LCl]at c1 c2 cr;obtain⟨R,hR⟩:∃R,R=t.rows:=⟨_,rfl⟩
 have htB:tcB t f g = .cells [.str t.name,.lst 1 f (t.attrs.map V.str),.lst 2 g (R.map aI)]:=by rw[hR];rfl
 obtain⟨M,hM⟩:∃M,M=R.filter (fy c):=⟨_,rfl⟩
 obtain⟨S1,hS1⟩:∃S1,S1=(M.filter fun r=>!ia c r).map fun r=>[r.id]:=⟨_,rfl⟩
 obtain⟨S2,hS2⟩:∃S2,S2=prL (fm c) M:=⟨_,rfl⟩
 have hR8:R.length≤8:=by rw[hR];exact h.few
 have hM8:M.length≤8:=by rw[hM];exact sF (rz _ _) hR8
 have hS8:S1.length≤8:=by rw[hS1,sK];exact sF (rz _ _) hM8
 have hS64:S2.length≤64:=by rw[hS2];exact sF (fM M) (sq8 hM8)
 have hE:ng c R=S1++S2:=by rw[hS1,hS2,hM];rfl
 have hlen:∀r∈R,r.vals.length=t.attrs.length:=by rw[hR];exact ct.len
 have hlM:∀r∈M,r.vals.length=t.attrs.length:=fun r hr=>hlen r (by rw[hM]at hr;exact(List.mem_filter.1 hr).1)
 rw[←hR]at c1 ⊢;rw[hE]
 have hrb:∀o:List Rw,∀bl∈[B.cells [.str t.name,.lst 1 f (t.attrs.map V.str),.lst 2 g (R.map aI)],B.cells [.lst 1 f2 (c.l.map aE),.int .i64 c.r,.lst 4 g2 (c.p.map ao)],B.buf 80 2 (o.map aI) false],rbB 3 bl:=fun o bl hbl=>by
  simp only[rU,rS,or_false]at hbl
  rcases hbl with rfl | rfl | rfl
  ·rw[←htB];exact bS _ _ _ _
  ·exact ccB_rb _ _ _ _
  ·exact rows_rb _ _ _ _
 have hrb5:∀o o2:List (List Int),∀bl∈[B.cells [.str t.name,.lst 1 f (t.attrs.map V.str),.lst 2 g (R.map aI)],B.cells [.lst 1 f2 (c.l.map aE),.int .i64 c.r,.lst 4 g2 (c.p.map ao)],B.buf 80 2 (M.map aI) true,B.buf 34 1 (o.map (L1 true)) false,B.buf 34 1 (o2.map (L1 true)) false],rbB 5 bl:=fun o o2 bl hbl=>by
  simp only[rU,rS,or_false]at hbl
  rcases hbl with rfl | rfl | rfl | rfl | rfl
  ·rw[←htB];exact bS _ _ _ _
  ·exact ccB_rb _ _ _ _
  ·exact rows_rb _ _ _ _
  ·exact nA _ _ _
  ·exact nA _ _ _
 have hrb6:∀(r:Rw) (o o2:List (List Int)),∀bl∈[B.cells [.str t.name,.lst 1 f (t.attrs.map V.str),.lst 2 g (R.map aI)],B.cells [.lst 1 f2 (c.l.map aE),.int .i64 c.r,.lst 4 g2 (c.p.map ao)],B.buf 80 2 (M.map aI) true,B.buf 34 1 (o.map (L1 true)) false,B.buf 34 1 (o2.map (L1 true)) false,B.cells [.int .i64 r.id,.lst 3 false (r.vals.map aX)]],rbB 6 bl:=fun r o o2 bl hbl=>by
  simp only[rU,rS,or_false]at hbl
  rcases hbl with rfl | rfl | rfl | rfl | rfl | rfl
  ·rw[←htB];exact bS _ _ _ _
  ·exact ccB_rb _ _ _ _
  ·exact rows_rb _ _ _ _
  ·exact nA _ _ _
  ·exact nA _ _ _
  ·exact rcB_rb _ _
 refine bV (aF (tkf 34) Tryz.func130 rfl rfl ?_);refine W_x (tkf 34) mixed ?_;simp -dsimp[Tryz.f130,rO,aD,ah,LR,LS,LCl,hR.symm,L1,aM];refine cPx (c1) (by simp) ?_;simp -dsimp[L1,aM];refine cPx (c2) (by simp) ?_;simp -dsimp[L1,aM];refine aG (bf 80 2 [7] (by simp) (W_loopM 43 0x7ffc0000280 (by simp[mB]<;>rfl) (σ:=Nat×List Rw) (fun p=>p.2++(R.drop p.1).filter (fy c)=M) (fun p=>R.length-p.1) (fun p=>[(30,.int .i64 p.1),(7,.buf 2 0 p.2.length p.2.length)]) (fun p=>[B.cells [.str t.name,.lst 1 f (t.attrs.map V.str),.lst 2 g (R.map aI)],B.cells [.lst 1 f2 (c.l.map aE),.int .i64 c.r,.lst 4 g2 (c.p.map ao)],B.buf 80 2 (p.2.map aI) false]) (0,[]) (by rw[hM];rfl) (by simp) (by simp) (by simp) ?_));rintro⟨i,ms⟩ hx N Q hN hQ;simp only at hx;by_cases hb:i<R.length
 ·have hri:=hlen _ (rQ hb);rw[rP hb]at hx;obtain⟨r,hre⟩:∃r,r=R[i]:=⟨_,rfl⟩;rw[←hre]at hx hri;have c3:=left_u c r f2 g2 false t.attrs.length hri ck.l ck.p ck.lb;simp only[ah,L1,LCl,LV]at c3
  cases hq:fy c r with
  | false =>
   rw[hq]at c3;rw[sr (by simp[hq])]at hx;refine W_x (tkf 34) mixed ?_;simp -dsimp[hb,hre.symm,aI,LV,L1,aM];refine cPx (c3) (by simp) ?_;simp -dsimp[aH i (by omega),L1,aM];refine hN (i+1,ms) _ _ hx (by simp only;omega) (by simp) ⟨[B.cells [.int .i64 r.id,.lst 3 false (r.vals.map aX)]],by simp⟩ (by simp) (hrb _)
  | true =>
   rw[hq]at c3;rw[sq hq]at hx
   have hml:ms.length≤8:=by rw[←hx]at hM8;simp only[ri]at hM8;omega
   refine W_x (tkf 34) mixed ?_;simp -dsimp[hb,hre.symm,aI,LV,L1,aM];refine cPx (c3) (by simp) ?_;simp -dsimp[cap32r ms.length (by omega),ai ms.length (by omega),aH i (by omega),L1,aM];refine hN (i+1,ms++[r]) _ _ (by rw[←hx];simp) (by simp only;omega) (by simp) ⟨[B.cells [.int .i64 r.id,.lst 3 false (r.vals.map aX)]],by simp[aI,LV]⟩ (by simp) (hrb _)
 ·rw[rR (show R.length≤i by omega),uI,rj]at hx;subst hx;refine cy 2 [7] rfl (by simp) ?_;refine W_x (tkf 34) mixed ?_;simp -dsimp[hb,L1,aM];refine hQ _ _ _ ?_;simp -dsimp[L1,aM];refine aG (bf 34 1 [10] (by simp) (bf 34 1 [11] (by simp) (W_loopM 91 0x7ffffffffffe0000000bc00 (by simp[mB]<;>rfl) (σ:=Nat×List (List Int)×List (List Int)) (fun p=>p.2.1++((ms.drop p.1).filter fun r=>!ia c r).map (fun r=>[r.id])=S1∧p.2.2++prL (fm c) (ms.drop p.1)=S2) (fun p=>ms.length-p.1) (fun p=>[(45,.int .i64 p.1),(10,.buf 3 0 p.2.1.length p.2.1.length),(11,.buf 4 0 p.2.2.length p.2.2.length)]) (fun p=>[B.cells [.str t.name,.lst 1 f (t.attrs.map V.str),.lst 2 g (R.map aI)],B.cells [.lst 1 f2 (c.l.map aE),.int .i64 c.r,.lst 4 g2 (c.p.map ao)],B.buf 80 2 (ms.map aI) true,B.buf 34 1 (p.2.1.map (L1 true)) false,B.buf 34 1 (p.2.2.map (L1 true)) false]) (0,[],[]) ⟨by rw[hS1];rfl,by rw[hS2];rfl⟩ (by simp) (by simp) (by simp) ?_)));rintro⟨i,o1,o2⟩ ⟨hx1,hx2⟩ N Q hN hQ;simp only at hx1 hx2;by_cases hb:i<ms.length
  ·rw[fil_cons hb]at hx1;rw[ly hb]at hx2;have hri:=hlM _ (rQ hb);obtain⟨r,hre⟩:∃r,r=ms[i]:=⟨_,rfl⟩;rw[←hre]at hx1 hx2 hri;obtain⟨k,hk⟩:=su ck.r0;have hk1:=ck.r1
   have hkv:k<r.vals.length:=by omega
   obtain⟨x,hxx⟩:∃x,x=r.vals[k]:=⟨_,rfl⟩;obtain⟨y,hyy⟩:∃y,y=oN c.p c.l.length:=⟨_,rfl⟩
   have hrt:ia c r=clF y x:=by unfold ia;rw[hk,cQ hkv,←hxx,←hyy]
   have c4:=fits_u y x;rw[←hrt]at c4;rw[←hyy]at cr;simp only[ao,aX]at c4 cr;have htk:(ms.map aI).take ms.length=ms.map aI:=rt (by simp)
   have hdp:∀x∈(ms.map aI).drop (i+1),AM.Pure x:=fun x hx=>by
    obtain⟨y,_,rfl⟩:=List.mem_map.1 (sh hx);exact encRw_pure y
   have ho1:o1.length≤8:=by rw[←hx1]at hS8;simp only[ri]at hS8;omega
   cases hq:ia c r with
   | true =>
    rw[hq]at c4;rw[hq,vL,if_neg (by simp),rx]at hx1;refine W_x (tkf 34) mixed ?_;simp -dsimp[hb,hre.symm,aI,LV,L1,aM];refine .inr ⟨aC (by kernel_rfl),?_⟩;refine aN _ (aK (cr) (by simp)) ?_;simp -dsimp[hk,hkv,hxx.symm,aX,L1,aM];refine aN _ (aK (c4) (by simp)) ?_;simp -dsimp[aH i (by omega),show(0:Int)≤(i:Int)+1 by omega,show i+1≤ms.length by omega,htk,L1,aM];refine aG (W_loopM 90 0x3ffff800000000000008800 (by simp[mB]<;>rfl) (σ:=Nat×List (List Int)) (fun p=>p.2++((((ms.drop (i+1+p.1)).filter (fm c r)).map fun s=>[r.id,s.id])++prL (fm c) (ms.drop (i+1)))=S2) (fun p=>ms.length-p.1) (fun p=>[(71,.int .i64 p.1),(11,.buf 4 0 p.2.length p.2.length)]) (fun p=>[B.cells [.str t.name,.lst 1 f (t.attrs.map V.str),.lst 2 g (R.map aI)],B.cells [.lst 1 f2 (c.l.map aE),.int .i64 c.r,.lst 4 g2 (c.p.map ao)],B.buf 80 2 (ms.map aI) true,B.buf 34 1 ((o1).map (L1 true)) false,B.buf 34 1 (p.2.map (L1 true)) false,B.cells [.int .i64 r.id,.lst 3 false (r.vals.map aX)]]) (0,o2) hx2 (by simp) (by simp[L1,aE,aI,LV,hk]) (by simp) ?_);rintro⟨k2,o3⟩ hx3 N2 Q2 hN2 hQ2;simp only at hx3;by_cases hkb:k2<ms.length-(i+1)
    ·have hkR:i+1+k2<ms.length:=by omega
     rw[kS hkR]at hx3;have hrk:=hlM _ (rQ hkR);obtain⟨s,hse⟩:∃s,s=ms[i+1+k2]:=⟨_,rfl⟩;rw[←hse]at hx3 hrk;have c5:=pairC_u c r s f2 g2 false false t.attrs.length ck hri hrk;simp only[ah,L1,LCl,LV]at c5
     have ho3:o3.length≤64:=by rw[←hx3]at hS64;simp only[ri]at hS64;omega
     cases hq2:fm c r s with
     | false =>
      rw[hq2]at c5 hx3;rw[if_neg (by simp),rx]at hx3;refine W_x (tkf 34) mixed ?_;simp -dsimp[hkb,hkR,hse.symm,aI,LV,L1,aM];refine cPx (c5) (by simp) ?_;simp -dsimp[aH k2 (by omega),L1,aM];refine hN2 (k2+1,o3) _ _ hx3 (by simp only;omega) (by simp) ⟨[B.cells [.int .i64 s.id,.lst 3 false (s.vals.map aX)]],by simp⟩ (by simp;exact hdp) (hrb6 _ _ _)
     | true =>
      rw[hq2]at c5 hx3;rw[if_pos rfl]at hx3;refine W_x (tkf 34) mixed ?_;simp -dsimp[hkb,hkR,hse.symm,aI,LV,L1,aM];refine cPx (c5) (by simp) ?_;simp -dsimp[fI o3.length (by omega),ai o3.length (by omega),aH k2 (by omega),L1,aM];refine hN2 (k2+1,o3++[[r.id,s.id]]) _ _ (by rw[←hx3];simp[tJ]) (by simp only;omega) (by simp) ⟨[B.cells [.int .i64 s.id,.lst 3 false (s.vals.map aX)]],by simp[aE,L1]⟩ (by simp;exact hdp) (hrb6 _ _ _)
    ·rw[rR (show ms.length≤i+1+k2 by omega)]at hx3;refine W_x (tkf 34) mixed ?_;simp -dsimp[hkb,L1,aM];refine hQ2 _ _ _ ?_;simp -dsimp[aH i (by omega),L1,aM];refine hN (i+1,o1,o3) _ _ ⟨hx1,by simpa using hx3⟩ (by simp only;omega) (by simp[hk]) ⟨[B.cells [.int .i64 r.id,.lst 3 false (r.vals.map aX)]],by simp[hk,L1,aE]⟩ (by simp) (hrb5 _ _)
   | false =>
    rw[hq]at c4;rw[hq,uP,if_pos rfl]at hx1;refine W_x (tkf 34) mixed ?_;simp -dsimp[hb,hre.symm,aI,LV,L1,aM];refine .inr ⟨aC (by kernel_rfl),?_⟩;refine aN _ (aK (cr) (by simp)) ?_;simp -dsimp[hk,hkv,hxx.symm,aX,L1,aM];refine aN _ (aK (c4) (by simp)) ?_;simp -dsimp[aH i (by omega),show(0:Int)≤(i:Int)+1 by omega,show i+1≤ms.length by omega,htk,fI o1.length (by omega),ai o1.length (by omega),L1,aM];refine aG (W_loopM 90 0x3ffff800000000000008800 (by simp[mB]<;>rfl) (σ:=Nat×List (List Int)) (fun p=>p.2++((((ms.drop (i+1+p.1)).filter (fm c r)).map fun s=>[r.id,s.id])++prL (fm c) (ms.drop (i+1)))=S2) (fun p=>ms.length-p.1) (fun p=>[(71,.int .i64 p.1),(11,.buf 4 0 p.2.length p.2.length)]) (fun p=>[B.cells [.str t.name,.lst 1 f (t.attrs.map V.str),.lst 2 g (R.map aI)],B.cells [.lst 1 f2 (c.l.map aE),.int .i64 c.r,.lst 4 g2 (c.p.map ao)],B.buf 80 2 (ms.map aI) true,B.buf 34 1 ((o1++[[r.id]]).map (L1 true)) false,B.buf 34 1 (p.2.map (L1 true)) false,B.cells [.int .i64 r.id,.lst 3 false (r.vals.map aX)]]) (0,o2) hx2 (by simp) (by simp[L1,aE,aI,LV,hk]) (by simp) ?_);rintro⟨k2,o3⟩ hx3 N2 Q2 hN2 hQ2;simp only at hx3;by_cases hkb:k2<ms.length-(i+1)
    ·have hkR:i+1+k2<ms.length:=by omega
     rw[kS hkR]at hx3;have hrk:=hlM _ (rQ hkR);obtain⟨s,hse⟩:∃s,s=ms[i+1+k2]:=⟨_,rfl⟩;rw[←hse]at hx3 hrk;have c5:=pairC_u c r s f2 g2 false false t.attrs.length ck hri hrk;simp only[ah,L1,LCl,LV]at c5
     have ho3:o3.length≤64:=by rw[←hx3]at hS64;simp only[ri]at hS64;omega
     cases hq2:fm c r s with
     | false =>
      rw[hq2]at c5 hx3;rw[if_neg (by simp),rx]at hx3;refine W_x (tkf 34) mixed ?_;simp -dsimp[hkb,hkR,hse.symm,aI,LV,L1,aM];refine cPx (c5) (by simp) ?_;simp -dsimp[aH k2 (by omega),L1,aM];refine hN2 (k2+1,o3) _ _ hx3 (by simp only;omega) (by simp) ⟨[B.cells [.int .i64 s.id,.lst 3 false (s.vals.map aX)]],by simp[L1,aE]⟩ (by simp;exact hdp) (hrb6 _ _ _)
     | true =>
      rw[hq2]at c5 hx3;rw[if_pos rfl]at hx3;refine W_x (tkf 34) mixed ?_;simp -dsimp[hkb,hkR,hse.symm,aI,LV,L1,aM];refine cPx (c5) (by simp) ?_;simp -dsimp[fI o3.length (by omega),ai o3.length (by omega),aH k2 (by omega),L1,aM];refine hN2 (k2+1,o3++[[r.id,s.id]]) _ _ (by rw[←hx3];simp[tJ]) (by simp only;omega) (by simp) ⟨[B.cells [.int .i64 s.id,.lst 3 false (s.vals.map aX)]],by simp[aE,L1,hk]⟩ (by simp;exact hdp) (hrb6 _ _ _)
    ·rw[rR (show ms.length≤i+1+k2 by omega)]at hx3;refine W_x (tkf 34) mixed ?_;simp -dsimp[hkb,L1,aM];refine hQ2 _ _ _ ?_;simp -dsimp[aH i (by omega),L1,aM];refine hN (i+1,o1++[[r.id]],o3) _ _ ⟨(by rw[←hx1];simp),by simpa using hx3⟩ (by simp only;omega) (by simp[hk]) ⟨[B.cells [.int .i64 r.id,.lst 3 false (r.vals.map aX)]],by simp[hk,L1,aE]⟩ (by simp) (hrb5 _ _)
  ·rw[rR (show ms.length≤i by omega),uI,tt,rj]at hx1;rw[rR (show ms.length≤i by omega),prL,rj]at hx2;subst hx1;subst hx2;refine cy 4 [11] rfl (by simp) ?_;have hl1:o1.length≤8:=hS8;have hl2:o2.length≤64:=hS64;by_cases h0:o2=[]
   ·subst h0;refine W_x (tkf 34) mixed ?_;simp -dsimp[hb,L1,aM];refine hQ _ _ _ ?_;simp -dsimp[L1,aM];refine⟨nX (dK rfl (by simp) ?_),?_⟩
    all_goals simp[LT]
   ·refine W_x (tkf 34) mixed ?_;simp -dsimp[hb,L1,aM];refine hQ _ _ _ ?_;simp -dsimp[h0,show o1.length+o2.length≤9223372036854775807 by omega,show(o1.length+o2.length)*24≤140737488355328 by omega,L1,aM];refine⟨nX (dK (e:=34) (fz:=false) (xs:=(o1++o2).map (L1 true)) (by simp) (by simp) ?_),?_⟩
    ·intro x hx;obtain⟨y,_,rfl⟩:=List.mem_map.1 hx;exact L1_pure _ _
    ·refine .lst _ _ _ fun x hx=>?_
     obtain⟨y,_,rfl⟩:=List.mem_map.1 hx;exact L1_pure _ _
end
end Go.Proofs.YtjogkbekekdkjaaGreatDoor
