/- JM14: own texts of this seat, joined and shortened by pack4.py: Rc, G2, ClR, BF, BG, KR, ClK. -/
import Derived.Test.YtjogkbekekdkjaaGreatDoorJM13
import Derived.WalkSpells
import Derived.WalkLawsBesides
import Derived.Lib.Hide
import Derived.Maps.AppendAt
set_option linter.unusedVariables false
set_option linter.unusedSimpArgs false
set_option maxRecDepth 100000
set_option maxHeartbeats 64000000
open Bool renaming and_eq_true→pC,not_eq_true'→pg
open ByteArray renaming empty→pE
open Int renaming tmod_lt_of_pos→pq,tmod_nonneg→pw
open List renaming replicate→ou,getElem_mem→ow,not_mem_nil→pA,drop_eq_getElem_cons→pB,mem_cons→pD,drop_of_length_le→pF,range→pG,take_succ_eq_append_getElem→pJ,length_append→pK,append_nil→pL,drop_zero→pT,all_eq_true→pV,mem_cons_self→pW,length_filter_le→pY,mem_cons_of_mem→pZ,length_map→pc,mem_of_mem_take→pi,length_cons→pk,take_length→pt,mem_append→pz,map_append→qB,mem_filter→qH,range_succ→qI,filter_cons_of_pos→qU,filter_cons_of_neg→qV,any_cons→ql,pairwise_cons→rI,filter_append→rS,pairwise_map→rX,mem_flatMap→rZ,mem_map→rh
open Nat renaming le_refl→pI,lt_of_lt_of_le→pd,le_trans→ph,pow_le_pow_right→qD,lt_of_le_of_lt→qa,testBit_lt_two_pow→rC,pow_lt_pow_right→rN,min_eq_left→ri,and_le_left→sB,or_lt_two_pow→sJ
namespace Go.Proofs.YtjogkbekekdkjaaGreatDoor
section
open Go Go.AM
structure Snt where
 lv:Int
 lc:Int
 op:Int
 rv:Int
 rc:Int
structure Rul where
 k:Int
 fd:Fd
 cl:Int
 cr:Int
 cs:List Int
 xs:List Int
 ys:List Int
 nv:Int
 sn:List Snt
def cP(s:Snt):V:=.agg [.int .u8 s.lv,.int .u8 s.lc,.int .u8 s.op,.int .u8 s.rv,.int .u8 s.rc]
def aq(r:Rul):V:=.agg [.int .u8 r.k,.int .u8 (r.fd.l:Int),.int .u8 (r.fd.r:Int),.int .u8 r.cl,.int .u8 r.cr,LU r.cs,LU r.xs,LU r.ys,.int .u8 r.nv,.lst 5 false (r.sn.map cP)]
@[simp] theorem encSnt_pure (s:Snt):AM.Pure (cP s):=by simp[cP]
@[simp] theorem encRul_pure (s:Rul):AM.Pure (aq s):=by simp[aq,LU,bp]
@[simp] theorem encRul_oneV (s:Rul):cq (aq s)=true:=by simp[aq,cq,LU,V.one]
structure SntOk (s:Snt):Prop where
 lv:0≤s.lv∧s.lv<256
 lc:0≤s.lc∧s.lc<256
 op:0≤s.op∧s.op<256
 rv:0≤s.rv∧s.rv<256
 rc:0≤s.rc∧s.rc<256
structure RulOk (r:Rul):Prop where
 k:0≤r.k∧r.k<256
 fd:r.fd.l<256∧r.fd.r<256
 cl:0≤r.cl∧r.cl<256
 cr:0≤r.cr∧r.cr<256
 cs:r.cs.length≤9223372036854775807
 csv:∀c∈r.cs,0≤c∧c<256
 xs:r.xs.length≤9223372036854775807
 xsv:∀c∈r.xs,0≤c∧c<256
 ys:r.ys.length≤9223372036854775807
 ysv:∀c∈r.ys,0≤c∧c<256
 nv:0≤r.nv∧r.nv<256
 sn:r.sn.length≤1048576
 snv:∀s∈r.sn,SntOk s
def cfL(s:Int)(b:Nat)(n:Nat):List Int:=((pG n).filter fun a=>lu s a&&!decide (a=b)).map fun a:Nat=>(a:Int)
theorem cfL_succ(s:Int)(b n:Nat):cfL s b (n+1)=if(lu s n&&!decide (n=b))=true then cfL s b n++[(n:Int)] else cfL s b n:=by
 unfold cfL;rw[qI,rS,qB];by_cases h:(lu s n&&!decide (n=b))=true
 ·rw[if_pos h,qU (p:=fun a=>lu s a&&!decide (a=b)) h];rfl
 ·rw[if_neg h,qV (p:=fun a=>lu s a&&!decide (a=b)) h];simp
theorem cfL_mem{s:Int}{b n:Nat}{x:Int} : x∈cfL s b n↔∃a:Nat,x=(a:Int)∧a<n∧lu s a=true∧a≠b:=by
 unfold cfL;rw[rh];constructor
 ·rintro⟨a,ha,rfl⟩;obtain⟨h1,h2⟩:=List.mem_filter.1 ha;simp only[pC,pg,decide_eq_false_iff_not]at h2;exact⟨a,rfl,List.mem_range.1 h1,h2.1,h2.2⟩
 ·rintro⟨a,rfl,h1,h2,h3⟩;exact⟨a,List.mem_filter.2 ⟨List.mem_range.2 h1,by simp[h2,h3]⟩,rfl⟩
theorem cfL_asc(s:Int)(b n:Nat):(cfL s b n).Pairwise (· < ·):=by
 unfold cfL;rw[rX]
 exact(List.pairwise_lt_range.filter _).imp fun {x y} h=>by omega
theorem nQ(s:Int)(b n:Nat):(cfL s b n).length≤n:=by
 unfold cfL;rw[pc];exact ph (pY _ _) (by simp)
def clOf(cs:List Int)(k:Nat):Cl:=if k<cs.length∧¬(cs.getD k 0).tmod 2=0 then⟨false,ofC (((cs.getD k 0).tdiv 2).tmod 3)⟩ else⟨true,zV⟩
def cfP(cs:List Int)(m:Nat):List Cl:=(pG m).map (clOf cs)
theorem cfP_succ(cs:List Int)(m:Nat):cfP cs (m+1)=cfP cs m++[clOf cs m]:=by simp[cfP,qI]
theorem cfP_len(cs:List Int)(m:Nat):(cfP cs m).length=m:=by simp[cfP]
def cfR(n:Nat)(b:Int):Nat:=(b.tmod n).toNat
def cfOf(n:Nat)(s b:Int)(cs:List Int):Cfd:=⟨cfL s (cfR n b) n,(cfR n b:Int),cfP cs ((cfL s (cfR n b) n).length+1)⟩
theorem cfR_lt{n:Nat}{b:Int}(hn:0<n)(hb:0≤b):(cfR n b:Int)=b.tmod n∧cfR n b<n:=by
 unfold cfR;have h1:=pw (n:Int) hb;have h2:=pq b (show(0:Int)<n by omega);omega
theorem asc_of{n r:Int} : ∀{l:List Int} {b:Int},(∀a∈l,b<a)→l.Pairwise (· < ·)→(∀a∈l,a<n∧a≠r)→ascI n r b l=true
 | [],_,_,_,_=>rfl
 | a::l,b,h1,h2,h3=>by
  rw[rI]at h2;have a1:=h1 a (pW ..);obtain⟨a2,a3⟩:=h3 a (pW ..);rw[ascI,asc_of (b:=a) h2.1 h2.2 fun x hx=>h3 x (pZ _ hx)];simp[a1,a2,a3]
theorem ofV_val(m:Int):ai (ofV m)=true:=by
 unfold ofV
 repeat' split
 all_goals kernel_rfl
theorem clOf_ok(cs:List Int)(k:Nat):clB (clOf cs k)=true:=by
 unfold clOf;split
 ·exact ofV_val _
 ·kernel_rfl
theorem cfOf_ok{n:Nat}(hn:0<n)(s b:Int)(hb:0≤b)(cs:List Int):cfB n (cfOf n s b cs)=true:=by
 obtain⟨h1,h2⟩:=cfR_lt hn hb;unfold cfB cfOf;simp only[cfP_len]
 have ha:ascI n (cfR n b:Int) (-1) (cfL s (cfR n b) n)=true:=asc_of (fun a h=>by obtain⟨k,rfl,_⟩:=cfL_mem.1 h;omega) (cfL_asc _ _ _) fun a h=>by
  obtain⟨k,rfl,h3,_,h4⟩:=cfL_mem.1 h;omega
 have hp:(cfP cs ((cfL s (cfR n b) n).length+1)).all clB=true:=by
  rw[pV];intro c hc;obtain⟨k,_,rfl⟩:=List.mem_map.1 hc;exact clOf_ok _ _
 rw[ha,hp];simp;omega
def mbF(n:Nat)(l:List Int):List Int:=if n=0 then [] else(l.take 5).map fun x=>x.tmod n
theorem mbF_ok{n:Nat}{l:List Int}(hl:∀c∈l,0≤c∧c<256):olB n (mbF n l)=true:=by
 unfold olB mbF;split
 ·rfl
 ·rename_i h0;rw[pC,decide_eq_true_eq,pV];refine⟨by simp;omega,fun a ha=>?_⟩;obtain⟨c,hc,rfl⟩:=List.mem_map.1 ha;have h1:=pw (n:Int) (hl c (pi hc)).1;have h2:=pq c (show(0:Int)<n by omega);simp[inB];omega
def odOf(n:Nat)(xs ys:List Int):Od:=⟨mbF n xs,mbF n ys⟩
def mz(n:Nat)(vars:Int)(v c:Int):Tm:=if v.tmod (vars+1)=0∨n=0 then⟨0,0,ofC c⟩ else⟨v.tmod (vars+1),c.tmod n,zV⟩
def atOf(n:Nat)(vars:Int)(s:Snt):At:=⟨mz n vars s.lv s.lc,1+s.op.tmod 4,mz n vars s.rv s.rc⟩
def dnOf(n:Nat)(nv:Int)(sn:List Snt):Dn:=⟨1+nv.tmod 3,sn.map (atOf n (1+nv.tmod 3))⟩
theorem tmOf_ok{n:Nat}{vars v c:Int}(h1:1≤vars)(hv:0≤v)(hc:0≤c):tmB n vars (mz n vars v c)=true:=by
 unfold mz;split
 ·unfold tmB;rw[if_pos rfl];show(decide ((0:Int)=0)&&ai (ofV _))=true;rw[ofV_val];rfl
 ·rename_i h;have a1:=pw (vars+1) hv;have a2:=pq v (show(0:Int)<vars+1 by omega);have b1:=pw (n:Int) hc;have b2:=pq c (show(0:Int)<n by omega);unfold tmB;rw[if_neg (by show ¬v.tmod (vars+1)=0;omega)];show(decide (1≤v.tmod (vars+1))&&(decide (v.tmod (vars+1)≤vars)&&(decide (0≤c.tmod n)&&(decide (c.tmod n<n)&&nV zV))))=true;rw[decide_eq_true (by omega),decide_eq_true (by omega),decide_eq_true (by omega),decide_eq_true (by omega)]
  kernel_rfl
theorem dnOf_ok{n:Nat}{nv:Int}(hv:0≤nv){sn:List Snt}(h5:sn.length≤5)(hs:∀s∈sn,SntOk s):dnB n (dnOf n nv sn)=true:=by
 have h1:=pw 3 hv;have h2:=pq nv (show(0:Int)<3 by omega);unfold dnB dnOf;simp only[pc,pC,decide_eq_true_eq,pV];refine⟨by omega,by omega,by omega,fun a ha=>?_⟩;obtain⟨s,hm,rfl⟩:=List.mem_map.1 ha;have hk:=hs s hm;have o1:=pw 4 hk.op.1;have o2:=pq s.op (show(0:Int)<4 by omega);unfold atB atOf;simp only[pC,decide_eq_true_eq];exact⟨by omega,by omega,tmOf_ok (by omega) hk.lv.1 hk.lc.1,tmOf_ok (by omega) hk.rv.1 hk.rc.1⟩
def strR:ByteArray:=⟨#[114]⟩
def strC:ByteArray:=⟨#[99]⟩
def cn0:Cn:=⟨strC,strR,0,⟨0,0⟩,0,0,pE,[],pE,[],⟨[],0,[]⟩,⟨[],[]⟩,⟨0,[]⟩⟩
def iS(n:Nat)(r:Rul):Cn :=
 if r.k.tmod 5=1∧0<n then { cn0 with kind:=4,cfd:=cfOf n r.cl r.cr r.cs } else
 if r.k.tmod 5=2 then { cn0 with kind:=5,od:=odOf n r.xs r.ys } else
 if r.k.tmod 5=3 then { cn0 with kind:=6,dn:=dnOf n r.nv r.sn } else
 { cn0 with kind:=1,fd:=fdOf n r.fd }
def cR(r:Rul):Bool:=!decide (r.k.tmod 5=3)||decide (r.sn.length≤5)
theorem fullN_lt2:∀n,jE n<2^n
 | 0=>by simp[jE]
 | i+1=>sJ (n:=i+1) (Nat.lt_trans (fullN_lt2 i) (rN (by omega) (by omega))) (rN (by omega) (by omega))
theorem cnOf_ok{t:Tb}(ht:t.name=strR){r:Rul}(h:RulOk r)(hk:cR r=true):eg t (iS t.attrs.length r)=0:=by
 have hname:∀c:Cn,c.table=strR→(c.table.toList == t.name.toList)=true:=fun c hc=>by rw[hc,ht];exact beq_self_eq_true _
 unfold eg iS;by_cases h1:r.k.tmod 5=1∧0<t.attrs.length
 ·rw[if_pos h1];rw[if_pos (by rw[hname _ rfl];rfl),if_neg (by show ¬((4:Int)=2∨(4:Int)=3);omega),if_neg (by show ¬(4:Int)=1;omega),if_pos rfl];exact if_pos (cfOf_ok h1.2 _ _ h.cr.1 _)
 rw[if_neg h1];by_cases h2:r.k.tmod 5=2
 ·rw[if_pos h2];rw[if_pos (by rw[hname _ rfl];rfl),if_neg (by show ¬((5:Int)=2∨(5:Int)=3);omega),if_neg (by show ¬(5:Int)=1;omega),if_neg (by show ¬(5:Int)=4;omega),if_pos rfl];refine if_pos ?_;show(olB _ (mbF _ r.xs)&&olB _ (mbF _ r.ys))=true;rw[mbF_ok h.xsv,mbF_ok h.ysv];rfl
 rw[if_neg h2];by_cases h3:r.k.tmod 5=3
 ·rw[if_pos h3];rw[if_pos (by rw[hname _ rfl];rfl),if_neg (by show ¬((6:Int)=2∨(6:Int)=3);omega),if_neg (by show ¬(6:Int)=1;omega),if_neg (by show ¬(6:Int)=4;omega),if_neg (by show ¬(6:Int)=5;omega)];unfold cR at hk;rw[h3]at hk;exact if_pos (dnOf_ok h.nv.1 (by simpa using hk) h.snv)
 rw[if_neg h3];rw[if_pos (by rw[hname _ rfl];rfl),if_neg (by show ¬((1:Int)=2∨(1:Int)=3);omega),if_pos rfl];refine if_pos ?_;have hf:=fullN_lt2 t.attrs.length;unfold jR;rw[decide_eq_true_eq];refine Nat.div_eq_of_lt (sJ ?_ ?_)
 ·exact qa Nat.and_le_right hf
 ·exact qa Nat.and_le_right hf
def ia(x:Rcp):Tb:=wideT x (x.a.tmod 6).toNat
theorem fm{n:Nat} : ∀{rs:List Rw} {last:Int},(∀r∈rs,last<r.id)→(∀r∈rs,r.vals.length=n)→(∀r∈rs,∀v∈r.vals,ai v=true)→rs.Pairwise (fun a b=>a.id<b.id)→bU n last rs=0
 | [],_,_,_,_,_=>rfl
 | r::rs,last,h1,h2,h3,h4=>by
  have a1:=h1 r pW;have a2:=h2 r pW;have a3:r.vals.all ai=true:=List.all_eq_true.2 (h3 r pW);rw[rI]at h4;rw[bU,if_neg (by omega),if_neg (by omega),a3,if_pos rfl];exact fm h4.1 (fun r' hr=>h2 r' (pZ _ hr)) (fun r' hr=>h3 r' (pZ _ hr)) h4.2
theorem wideT_rows{x:Rcp}{n:Nat}(hg:0≤x.gap):(∀r∈(wideT x n).rows,0<r.id∧r.vals.length=n∧∀v∈r.vals,∃m,v=ofV m)∧(wideT x n).rows.Pairwise fun a b=>a.id<b.id:=by
 have h0:=pw 3 hg;constructor
 ·intro r hr;obtain⟨i,hi,rfl⟩:=List.mem_map.1 hr;refine⟨?_,wVals_len _ _,fun v hv=>?_⟩
  ·show 0<1+(i:Int)*(1+x.gap.tmod 3);have:=Int.mul_nonneg (show(0:Int)≤i by omega) (show 0≤1+x.gap.tmod 3 by omega);omega
  ·obtain⟨j,_,rfl⟩:=List.mem_map.1 hv;exact⟨_,rfl⟩
 ·show((pG x.rows.length).map _).Pairwise _;rw[rX];refine List.Pairwise.imp ?_ List.pairwise_lt_range;intro i j hij;show 1+(i:Int)*(1+x.gap.tmod 3)<1+(j:Int)*(1+x.gap.tmod 3);have:=Int.mul_lt_mul_of_pos_right (show(i:Int)<j by omega) (show 0<1+x.gap.tmod 3 by omega);omega
theorem names_few:∀n,n<6→cO (L8.take n)=true
 | 0,_=>by kernel_rfl
 | 1,_=>by kernel_rfl
 | 2,_=>by kernel_rfl
 | 3,_=>by kernel_rfl
 | 4,_=>by kernel_rfl
 | 5,_=>by kernel_rfl
 | n+6,h=>by omega
theorem ofV_sz(m:Int):(ofV m).s.size≤maxLen:=by
 unfold ofV
 repeat' split
 all_goals decide
theorem tbOf_name(x:Rcp):(ia x).name=strR:=rfl
structure RcpOk (x:Rcp):Prop where
 a:0≤x.a∧x.a<256
 gap:0≤x.gap
 rows:x.rows.length≤6
 len:∀r∈x.rows,r.length≤9223372036854775807
theorem tbOf_n{x:Rcp}(h:0≤x.a):(x.a.tmod 6).toNat<6∧(((x.a.tmod 6).toNat:Nat):Int)=x.a.tmod 6:=by
 have h1:=pw 6 h;have h2:=pq x.a (show(0:Int)<6 by omega);omega
def ixP{α:Type}(p:α→Bool)(es:List α)(i:Nat):Int:=if h:i<es.length then(if p es[i] then(i:Int) else ixP p es (i+1)) else -1
termination_by es.length-i
theorem nJ{α:Type}(p:α→Bool)(es:List α)(i:Nat):decide (0≤ixP p es i)=(es.drop i).any p:=by
 fun_induction ixP p es i with
 | case1 i h h0=>rw[pB h,ql,h0];simp
 | case2 i h h0 ih=>rw[pB h,ql,ih];simp[h0]
 | case3 i h=>rw[pF (by omega)];rfl
theorem ix_A(H:List B)(fv:V)(p:At→Bool)(es:List At)(g:Bool)(hes:es.length≤1000000)(hH:∀bl∈H,rbB H.length bl)(hfv:rb H.length fv)
  (hp:∀m∈es,aI Tryz.prog fv [du m] H fun r H'=>r = .bool (p m)∧H'=H):aZ Tryz.prog 237 [LA g es,fv] H fun r H'=>r = .int .i64 (ixP p es 0)∧H'=H:=by
 refine aK tok Tryz.func237 rfl rfl ?_;refine wx ?_;simp -dsimp[Tryz.f237,ou,LA];refine aR (W_loopM 19 0x7ff30 (by simp[mB]<;>rfl) (σ:=Nat) (fun i=>ixP p es i=ixP p es 0) (fun i=>es.length-i) (fun i=>[(8,.int .i64 i)]) (fun _=>H) 0 rfl (by simp) rfl (by simp) ?_);intro i hx N Q hN hQ;by_cases hb:i<es.length
 ·rw[ixP,dif_pos hb]at hx;have hc:=hp es[i] (ow hb);cases hq:p es[i]
  ·rw[hq]at hc hx;refine wx ?_;simp -dsimp[hb];refine hc.mono ?_;rintro r H' ⟨rfl,rfl⟩;simp -dsimp[aa i (by omega)];refine hN (i+1) _ _ (by simpa using hx) (by omega) (by simp) ⟨[],by simp⟩ (by simp;exact hfv) hH
  ·rw[hq]at hc hx;refine wx ?_;simp -dsimp[hb];refine hc.mono ?_;rintro r H' ⟨rfl,rfl⟩;simp -dsimp[];refine hQ _ _ _ ?_;simp -dsimp[];simpa using hx
 ·rw[ixP,dif_neg hb]at hx;refine wx ?_;simp -dsimp[hb];refine hQ _ _ _ ?_;simp -dsimp[];simpa using hx
theorem cont_A(H:List B)(fv:V)(p:At→Bool)(es:List At)(g:Bool)(hes:es.length≤1000000)(hH:∀bl∈H,rbB H.length bl)(hfv:rb H.length fv)
  (hp:∀m∈es,aI Tryz.prog fv [du m] H fun r H'=>r = .bool (p m)∧H'=H):aZ Tryz.prog 180 [LA g es,fv] H fun r H'=>r = .bool (es.any p)∧H'=H:=by
 have h0:=nJ p es 0;rw[pT]at h0;have hc:=ix_A H fv p es g hes hH hfv hp;refine aK tok Tryz.func180 rfl rfl ?_;refine wx ?_;simp -dsimp[Tryz.f180,ou];refine aI.mono (K:=fun r H'=>r = .int .i64 (ixP p es 0)∧H'=H) hc ?_;rintro r H' ⟨rfl,rfl⟩;simp -dsimp[];rw[←h0]
theorem ix_L(H:List B)(fv:V)(p:Cl→Bool)(es:List Cl)(g:Bool)(hes:es.length≤1000000)(hH:∀bl∈H,rbB H.length bl)(hfv:rb H.length fv)
  (hp:∀m∈es,aI Tryz.prog fv [dG m] H fun r H'=>r = .bool (p m)∧H'=H):aZ Tryz.prog 238 [LCl g es,fv] H fun r H'=>r = .int .i64 (ixP p es 0)∧H'=H:=by
 refine aK tok Tryz.func238 rfl rfl ?_;refine wx ?_;simp -dsimp[Tryz.f238,ou,LCl];refine aR (W_loopM 19 0x7ff30 (by simp[mB]<;>rfl) (σ:=Nat) (fun i=>ixP p es i=ixP p es 0) (fun i=>es.length-i) (fun i=>[(8,.int .i64 i)]) (fun _=>H) 0 rfl (by simp) rfl (by simp) ?_);intro i hx N Q hN hQ;by_cases hb:i<es.length
 ·rw[ixP,dif_pos hb]at hx;have hc:=hp es[i] (ow hb);cases hq:p es[i]
  ·rw[hq]at hc hx;refine wx ?_;simp -dsimp[hb];refine hc.mono ?_;rintro r H' ⟨rfl,rfl⟩;simp -dsimp[aa i (by omega)];refine hN (i+1) _ _ (by simpa using hx) (by omega) (by simp) ⟨[],by simp⟩ (by simp;exact hfv) hH
  ·rw[hq]at hc hx;refine wx ?_;simp -dsimp[hb];refine hc.mono ?_;rintro r H' ⟨rfl,rfl⟩;simp -dsimp[];refine hQ _ _ _ ?_;simp -dsimp[];simpa using hx
 ·rw[ixP,dif_neg hb]at hx;refine wx ?_;simp -dsimp[hb];refine hQ _ _ _ ?_;simp -dsimp[];simpa using hx
theorem cont_L(H:List B)(fv:V)(p:Cl→Bool)(es:List Cl)(g:Bool)(hes:es.length≤1000000)(hH:∀bl∈H,rbB H.length bl)(hfv:rb H.length fv)
  (hp:∀m∈es,aI Tryz.prog fv [dG m] H fun r H'=>r = .bool (p m)∧H'=H):aZ Tryz.prog 183 [LCl g es,fv] H fun r H'=>r = .bool (es.any p)∧H'=H:=by
 have h0:=nJ p es 0;rw[pT]at h0;have hc:=ix_L H fv p es g hes hH hfv hp;refine aK tok Tryz.func183 rfl rfl ?_;refine wx ?_;simp -dsimp[Tryz.f183,ou];refine aI.mono (K:=fun r H'=>r = .int .i64 (ixP p es 0)∧H'=H) hc ?_;rintro r H' ⟨rfl,rfl⟩;simp -dsimp[];rw[←h0]
theorem ix_I(H:List B)(fv:V)(p:Int→Bool)(es:List Int)(g:Bool)(hes:es.length≤1000000)(hH:∀bl∈H,rbB H.length bl)(hfv:rb H.length fv)
  (hp:∀m∈es,aI Tryz.prog fv [V.int .i64 m] H fun r H'=>r = .bool (p m)∧H'=H):aZ Tryz.prog 156 [L1 g es,fv] H fun r H'=>r = .int .i64 (ixP p es 0)∧H'=H:=by
 refine aK tok Tryz.func156 rfl rfl ?_;refine wx ?_;simp -dsimp[Tryz.f156,ou,L1];refine aR (W_loopM 19 0x7ff30 (by simp[mB]<;>rfl) (σ:=Nat) (fun i=>ixP p es i=ixP p es 0) (fun i=>es.length-i) (fun i=>[(8,.int .i64 i)]) (fun _=>H) 0 rfl (by simp) rfl (by simp) ?_);intro i hx N Q hN hQ;by_cases hb:i<es.length
 ·rw[ixP,dif_pos hb]at hx;have hc:=hp es[i] (ow hb);cases hq:p es[i]
  ·rw[hq]at hc hx;refine wx ?_;simp -dsimp[hb,au];refine hc.mono ?_;rintro r H' ⟨rfl,rfl⟩;simp -dsimp[aa i (by omega)];refine hN (i+1) _ _ (by simpa using hx) (by omega) (by simp) ⟨[],by simp⟩ (by simp;exact hfv) hH
  ·rw[hq]at hc hx;refine wx ?_;simp -dsimp[hb,au];refine hc.mono ?_;rintro r H' ⟨rfl,rfl⟩;simp -dsimp[];refine hQ _ _ _ ?_;simp -dsimp[];simpa using hx
 ·rw[ixP,dif_neg hb]at hx;refine wx ?_;simp -dsimp[hb];refine hQ _ _ _ ?_;simp -dsimp[];simpa using hx
theorem cont_I(H:List B)(fv:V)(p:Int→Bool)(es:List Int)(g:Bool)(hes:es.length≤1000000)(hH:∀bl∈H,rbB H.length bl)(hfv:rb H.length fv)
  (hp:∀m∈es,aI Tryz.prog fv [V.int .i64 m] H fun r H'=>r = .bool (p m)∧H'=H):aZ Tryz.prog 100 [L1 g es,fv] H fun r H'=>r = .bool (es.any p)∧H'=H:=by
 have h0:=nJ p es 0;rw[pT]at h0;have hc:=ix_I H fv p es g hes hH hfv hp;refine aK tok Tryz.func100 rfl rfl ?_;refine wx ?_;simp -dsimp[Tryz.f100,ou];refine aI.mono (K:=fun r H'=>r = .int .i64 (ixP p es 0)∧H'=H) hc ?_;rintro r H' ⟨rfl,rfl⟩;simp -dsimp[];rw[←h0]
theorem ix_R(H:List B)(fv:V)(p:Rw→Bool)(es:List Rw)(g:Bool)(hes:es.length≤1000000)(hH:∀bl∈H,rbB H.length bl)(hfv:rb H.length fv)
  (hp:∀m∈es,aI Tryz.prog fv [aT m] H fun r H'=>r = .bool (p m)∧H'=H):aZ Tryz.prog 96 [LR g es,fv] H fun r H'=>r = .int .i64 (ixP p es 0)∧H'=H:=by
 refine aK tok Tryz.func96 rfl rfl ?_;refine wx ?_;simp -dsimp[Tryz.f96,ou,LR];refine aR (W_loopM 19 0x7ff30 (by simp[mB]<;>rfl) (σ:=Nat) (fun i=>ixP p es i=ixP p es 0) (fun i=>es.length-i) (fun i=>[(8,.int .i64 i)]) (fun _=>H) 0 rfl (by simp) rfl (by simp) ?_);intro i hx N Q hN hQ;by_cases hb:i<es.length
 ·rw[ixP,dif_pos hb]at hx;have hc:=hp es[i] (ow hb);cases hq:p es[i]
  ·rw[hq]at hc hx;refine wx ?_;simp -dsimp[hb];refine hc.mono ?_;rintro r H' ⟨rfl,rfl⟩;simp -dsimp[aa i (by omega)];refine hN (i+1) _ _ (by simpa using hx) (by omega) (by simp) ⟨[],by simp⟩ (by simp;exact hfv) hH
  ·rw[hq]at hc hx;refine wx ?_;simp -dsimp[hb];refine hc.mono ?_;rintro r H' ⟨rfl,rfl⟩;simp -dsimp[];refine hQ _ _ _ ?_;simp -dsimp[];simpa using hx
 ·rw[ixP,dif_neg hb]at hx;refine wx ?_;simp -dsimp[hb];refine hQ _ _ _ ?_;simp -dsimp[];simpa using hx
theorem cont_R(H:List B)(fv:V)(p:Rw→Bool)(es:List Rw)(g:Bool)(hes:es.length≤1000000)(hH:∀bl∈H,rbB H.length bl)(hfv:rb H.length fv)
  (hp:∀m∈es,aI Tryz.prog fv [aT m] H fun r H'=>r = .bool (p m)∧H'=H):aZ Tryz.prog 243 [LR g es,fv] H fun r H'=>r = .bool (es.any p)∧H'=H:=by
 have h0:=nJ p es 0;rw[pT]at h0;have hc:=ix_R H fv p es g hes hH hfv hp;refine aK tok Tryz.func243 rfl rfl ?_;refine wx ?_;simp -dsimp[Tryz.f243,ou];refine aI.mono (K:=fun r H'=>r = .int .i64 (ixP p es 0)∧H'=H) hc ?_;rintro r H' ⟨rfl,rfl⟩;simp -dsimp[];rw[←h0]
end
end Go.Proofs.YtjogkbekekdkjaaGreatDoor
namespace Go.Proofs.YtjogkbekekdkjaaGreatDoor
section
open Go Go.AM Go.RowKit
theorem capRw(n:Nat)(h:n≤1000000000):n≤9223372036854775806∧(n+1)*32≤140737488355328:=by omega
theorem capCn(n:Nat)(h:n≤1000000):n≤9223372036854775806∧(n+1)*272≤140737488355328:=by omega
theorem oh{f:FuncId}{args:List V}{e z:Nat}(hE:AM.Enters Tryz.prog f)(h:∀(F:Nat→Prop) (w:World) (vals:Array Value),vals.size=args.length→(∀(i:Nat) a u,args[i]?=some a→vals[i]?=some u→Rel (AM.base F w) a u)→
  Calls Tryz.prog f vals w fun e' w'=>∃v,e' = .returned v∧Below w.heap.size w w'∧(v = .slice none 0 0∨∃g c cur,v = .slice (some ⟨g,0,none⟩) 0 c∧w.heap.size≤g∧w'.heap[g]?=some (.cells cur e (0,0))∧c≤maxLen∧cur.size=c*z)):fQ Tryz.prog f args fun e' z' ys=>e'=e∧z'=z∧ys=[]:=by
 refine⟨hE,fun F w vals hZ hF hsz hrel=>(h F w vals hsz hrel).mono fun e' w' ⟨v,he,hb,hv⟩=>?_⟩
 rcases hv with hv | ⟨g,c,cur,hv,hg,hc,hm,hs⟩
 ·have hF':∀b,F b→b<w'.heap.size:=fun b hb'=>pd (hF b hb') hb.size
  obtain⟨p1,_⟩:=mi (AM.base_good hF') (w:=w') 0 e z false rfl rfl rfl (pI _) (fun _ _=>rfl);refine⟨v,e,z,[],none,0,0,he,hv,fun h=>absurd rfl h,by simp,fun h=>absurd rfl h,?_,hb,rfl,rfl,rfl⟩;refine⟨hF',fun k hk=>absurd (hk.2 e z [] false (by have:=hk.1;simp at this;subst this;rfl)) (by simp),fun j k hj hk _=>by have:=hj.1;have:=hk.1;simp at *;omega,fun k bl hk=>?_⟩
  have hk0:k=0:=by have:=aB hk;simp at this;omega
  subst hk0;simp at hk;subst hk;exact⟨#[],fun h=>absurd rfl h,by simp,by simp,by simp[maxLen],(fun x hx=>by cases hx),(fun i x j c u hx=>by simp at hx)⟩
 ·have hF':∀b,F b→b<w'.heap.size:=fun b hb'=>pd (hF b hb') hb.size
  refine⟨v,e,z,[],some ⟨g,0,none⟩,g,c,he,hv,fun _=>rfl,by simp,fun _=>hg,?_,hb,rfl,rfl,rfl⟩;refine⟨hF',fun k hk=>⟨(Array.getElem?_eq_some_iff.1 hc).1,fun hf=>by have:=hF g hf;omega⟩,fun j k hj hk _=>by have:=hj.1;have:=hk.1;simp at *;omega,fun k bl hk=>?_⟩
  have hk0:k=0:=by have:=aB hk;simp at this;omega
  subst hk0;simp at hk;subst hk;exact⟨cur,fun _=>hc,by simpa using hs,by simp,hm,(fun x hx=>by cases hx),(fun i x j c u hx=>by simp at hx)⟩
theorem infoD_R:(Tryz.prog.info? 80).map (fun i=>(i.zero,i.size,i.bytes))=some (some (.agg #[.int .i64 0,.slice none 0 0]),2,32):=by kernel_rfl
theorem cloneE_R(A:Option Addr)(cap:Nat)(w:World):
  Calls Tryz.prog 245 #[.slice A 0 cap] w fun e w'=>∃v,e = .returned v∧w'.ownsRow w.heap.size 80 2 v 0 []∧Below w.heap.size w w':=by
 have hnil:=fun W A n c=>Lib.run_eql_slice_nil (P:=Tryz.prog) W 30 80 A n c 0 0 Tryz.underlying30
 cases A with
 | none =>
  go_enter Tryz.func245,Tryz.ntmps245
  go_wp2
  go_ret
  exact⟨_,rfl,World.ownsRow_nil _ _ _ _,Below.refl _ _⟩
 | some ad =>
  obtain⟨i0,hi,hz0,hz1,hz2⟩:=info_parts infoD_R;have hown:(w.alloc (.cells #[] 80)).ownsRow w.heap.size 80 2 (.slice (some ⟨w.heap.size,0,none⟩) 0 0) 0 []:=World.ownsRow_lit w #[] 0 (pI _) (by simp[maxLen]) (by simp)
  have hnews:∀j u,([]:List Value)[j]?=some u→(w.alloc (.cells #[] 80)).cell? (ad.add j)=some u:=by
   intro j u hu;simp at hu
  have hone:∀u∈([]:List Value),u.oneCell'=true:=by intro u hu;cases hu
  have h63:0+0≤maxLen:=by simp[maxLen]
  have hby:(0+0)*32≤140737488355328:=by omega
  have hlen:([]:List Value).length=0*2:=by simp
  have Hi:=Lib.hid (show Tryz.prog.info? 80=some i0∧i0.zero=some _∧i0.size=2∧i0.bytes=32 from⟨hi,hz0,hz1,hz2⟩);have Hw:=Lib.hid (And.intro hown (And.intro hnews (And.intro hone (And.intro h63 (And.intro hby hlen)))));clear hnews hone hown hi hz0 hz1 hz2 h63 hby hlen
  go_enter Tryz.func245,Tryz.ntmps245
  go_wp2_with (at_builtin;refine wpList_append_own _ rfl _ _ 30 rfl w.heap.size 80 i0 _ 2 32 Tryz.underlying30 Hi.out.1 Hi.out.2.1 Hi.out.2.2.1 Hi.out.2.2.2 rfl (by omega) (.slice (some ⟨w.heap.size,0,none⟩) 0 0) 0 [] rfl Hw.out.1 ad 0 cap [] rfl Hw.out.2.2.2.2.2 Hw.out.2.1 Hw.out.2.2.1 Hw.out.2.2.2.1 Hw.out.2.2.2.2.1 (by simp) ?_;intro v1 w1 ho hg hn;have Ho:=Lib.hid ho;have Hg:=Lib.hid hg;have Hn:=Lib.hid hn;clear ho hg hn)
  go_ret
  exact⟨v1,rfl,by have:=Ho.out;simpa using this,((Below.refl _ _).alloc (pI _) _).grown Hg.out (by simp) (by simp[Value.ownBlock])⟩
theorem cloneN_R:∀(f:Bool),aE Tryz.prog 245 [.lst 2 f []] fun r=>r = .lst 2 false []:=fun f=>by
 have hO:fQ Tryz.prog 245 [.lst 2 f []] fun e z ys=>e=80∧z=2∧ys=[]:=oh ⟨Tryz.f245,Tryz.func245,rfl,rfl⟩ (fun F w vals hsz hrel=>by
  obtain⟨u0,rfl⟩:∃u0,vals = #[u0]:=by
   obtain⟨l⟩:=vals
   match l,hsz with
   | [a],_=>exact⟨a,rfl⟩
  have r0:=hrel 0 _ u0 rfl rfl;cases r0
  refine(cloneE_R _ _ _).mono fun e' w' ⟨v,he,hown,hb⟩=>⟨v,he,hb,?_⟩
  obtain⟨_,⟨hv,_⟩ | ⟨g,c,cur,hv,hg,hc,hn,hm,hs,_⟩⟩:=hown
  ·exact .inl hv
  ·exact .inr ⟨g,c,cur,hv,hg,hc,hm,hs⟩)
 refine⟨hO.1,fun F w vals hZ hF hsz hrel=>((ei hO).2 F w vals hZ hF hsz hrel).mono fun e w' ⟨u,r,h1,h2,h3,h4,e',z,ys,h5,h6,h7,h8⟩=>?_⟩;subst h6;subst h7;subst h8;exact⟨u,r,h1,h2,h3,h4,h5⟩
theorem infoD_K:(Tryz.prog.info? 62).map (fun i=>(i.zero,i.size,i.bytes))=some (some (.agg #[.string pE,.string pE,.int .i64 0,.int .u32 0,.int .u32 0,.int .u32 0,.int .u32 0,.string pE,.slice none 0 0,.string pE,.slice none 0 0,.slice none 0 0,.int .i64 0,.slice none 0 0,.slice none 0 0,.slice none 0 0,.int .i64 0,.slice none 0 0]),18,272):=by kernel_rfl
theorem cloneE_K(A:Option Addr)(cap:Nat)(w:World):
  Calls Tryz.prog 14 #[.slice A 0 cap] w fun e w'=>∃v,e = .returned v∧w'.ownsRow w.heap.size 62 18 v 0 []∧Below w.heap.size w w':=by
 have hnil:=fun W A n c=>Lib.run_eql_slice_nil (P:=Tryz.prog) W 33 62 A n c 0 0 Tryz.underlying33
 cases A with
 | none =>
  go_enter Tryz.func14,Tryz.ntmps14
  go_wp2
  go_ret
  exact⟨_,rfl,World.ownsRow_nil _ _ _ _,Below.refl _ _⟩
 | some ad =>
  obtain⟨i0,hi,hz0,hz1,hz2⟩:=info_parts infoD_K;have hown:(w.alloc (.cells #[] 62)).ownsRow w.heap.size 62 18 (.slice (some ⟨w.heap.size,0,none⟩) 0 0) 0 []:=World.ownsRow_lit w #[] 0 (pI _) (by simp[maxLen]) (by simp)
  have hnews:∀j u,([]:List Value)[j]?=some u→(w.alloc (.cells #[] 62)).cell? (ad.add j)=some u:=by
   intro j u hu;simp at hu
  have hone:∀u∈([]:List Value),u.oneCell'=true:=by intro u hu;cases hu
  have h63:0+0≤maxLen:=by simp[maxLen]
  have hby:(0+0)*272≤140737488355328:=by omega
  have hlen:([]:List Value).length=0*18:=by simp
  have Hi:=Lib.hid (show Tryz.prog.info? 62=some i0∧i0.zero=some _∧i0.size=18∧i0.bytes=272 from⟨hi,hz0,hz1,hz2⟩);have Hw:=Lib.hid (And.intro hown (And.intro hnews (And.intro hone (And.intro h63 (And.intro hby hlen)))));clear hnews hone hown hi hz0 hz1 hz2 h63 hby hlen
  go_enter Tryz.func14,Tryz.ntmps14
  go_wp2_with (at_builtin;refine wpList_append_own _ rfl _ _ 33 rfl w.heap.size 62 i0 _ 18 272 Tryz.underlying33 Hi.out.1 Hi.out.2.1 Hi.out.2.2.1 Hi.out.2.2.2 rfl (by omega) (.slice (some ⟨w.heap.size,0,none⟩) 0 0) 0 [] rfl Hw.out.1 ad 0 cap [] rfl Hw.out.2.2.2.2.2 Hw.out.2.1 Hw.out.2.2.1 Hw.out.2.2.2.1 Hw.out.2.2.2.2.1 (by simp) ?_;intro v1 w1 ho hg hn;have Ho:=Lib.hid ho;have Hg:=Lib.hid hg;have Hn:=Lib.hid hn;clear ho hg hn)
  go_ret
  exact⟨v1,rfl,by have:=Ho.out;simpa using this,((Below.refl _ _).alloc (pI _) _).grown Hg.out (by simp) (by simp[Value.ownBlock])⟩
theorem cloneO0_R(f:Bool):fQ Tryz.prog 245 [.lst 2 f []] fun e z ys=>e=80∧z=2∧ys=[]:=oh ⟨Tryz.f245,Tryz.func245,rfl,rfl⟩ (fun F w vals hsz hrel=>by
  obtain⟨u0,rfl⟩:∃u0,vals = #[u0]:=by
   obtain⟨l⟩:=vals
   match l,hsz with
   | [a],_=>exact⟨a,rfl⟩
  have r0:=hrel 0 _ u0 rfl rfl;cases r0
  refine(cloneE_R _ _ _).mono fun e' w' ⟨v,he,hown,hb⟩=>⟨v,he,hb,?_⟩
  obtain⟨_,⟨hv,_⟩ | ⟨g,c,cur,hv,hg,hc,hn,hm,hs,_⟩⟩:=hown
  ·exact .inl hv
  ·exact .inr ⟨g,c,cur,hv,hg,hc,hm,hs⟩)
theorem cloneO_R(l:List Rw)(f:Bool)(hl:l.length≤1000000):fQ Tryz.prog 245 [.lst 2 f (l.map aT)] fun e z ys=>e=80∧z=2∧ys=l.map aT:=by
 cases l with
 | nil=>exact cloneO0_R f
 | cons x xs =>
  have hl':xs.length≤1000000:=by simp only[pk]at hl;omega
  refine sOx Tryz.func245 rfl rfl ?_;simp -dsimp[Tryz.f245,ou,oH,capRw xs.length (by omega),aT];exact⟨0,80,2,aT x::xs.map aT,by simp,rfl,by simp,rfl,rfl,rfl⟩
theorem tz_low{x t:Nat}(h0:0<x)(hx:x<4294967296)(ht:t<32)(h:x &&& (4294967296-x)=2^t):tzI x=t:=by
 have h1:(-(x:Int)) % 4294967296=((4294967296-x:Nat):Int):=by omega
 have h2:bits BinOp.and IntKind.u32 (x:Int) (-(x:Int) % 4294967296)=((2^t:Nat):Int):=by
  rw[h1,(bits_nat IntKind.u32 32 (by decide) (fun n h1 h2=>by rw[IntKind.wrap_u32];omega) x (4294967296-x) (by omega) (by omega)).1,h]
 have key:∀t:Fin 32,(cL[(((2^t.1:Nat):Int)*125613361 % 4294967296 / 134217728).toNat]?).getD 0=(t.1:Int):=by decide
 unfold tzI;rw[if_neg (by omega)];unfold tzIx;rw[h2];exact key ⟨t,ht⟩
def inN(l:List Nat):List Int:=l.map fun n:Nat=>(n:Int)
theorem iU(l:List Nat):(inN l).length=l.length:=by simp[inN]
theorem inN_snoc(l:List Nat)(t:Nat):inN (l++[t])=inN l++[(t:Int)]:=by simp[inN]
theorem pred32(x:Nat)(h:0<x)(h2:x<4294967296):IntKind.u32.wrap ((x:Int)-1)=((x-1:Nat):Int):=by rw[IntKind.wrap_u32];omega
theorem members_u(s:Nat)(hs:s<4294967296):aE Tryz.prog 178 [.int .u32 s] fun r=>r=L1 false (inN (iD 32 s)):=by
 obtain⟨E,hE⟩:∃E,E=iD 32 s:=⟨_,rfl⟩;rw[←hE]
 have hEl:E.length≤32:=by rw[hE];exact jB _ _
 refine sPx Tryz.func178 rfl rfl ?_;simp -dsimp[Tryz.f178,ou];refine aR (iR 3 1 [3] (by simp) (W_loopM 15 0x7ff9 (by simp[mB]<;>rfl) (σ:=Nat×List Nat) (fun p=>p.2++iD 32 p.1=E∧p.1<4294967296) (fun p=>p.1) (fun p=>[(0,.int .u32 p.1),(3,.buf 0 0 p.2.length p.2.length)]) (fun p=>[B.buf 3 1 ((inN p.2).map au) false]) (s,[]) ⟨by rw[hE];rfl,hs⟩ (by simp) (by simp[inN]) (by simp) ?_));rintro⟨x,out⟩ ⟨hx,hlt⟩ N Q hN hQ;simp only at hx hlt;by_cases h0:x=0
 ·subst h0;rw[ju (fun j _=>Nat.zero_testBit j),pL]at hx;subst hx;refine wx ?_;simp -dsimp[];refine hQ _ _ _ ?_;simp -dsimp[];exact lz rfl (by simp[iU]) (by simp[au])
 ·obtain⟨t,ht,h1,h2,h3,h4⟩:=bits_step (show 0<x by omega) hlt;have hc:=tz_con (x:Int);rw[tz_low (by omega) hlt ht h3]at hc;rw[h2]at hx
  have hol:out.length≤32:=by rw[←hx]at hEl;simp only[pK]at hEl;omega
  have ha:=and32 x (x-1) hlt (by omega);obtain⟨y,hy⟩:∃y,y=x &&& (x-1):=⟨_,rfl⟩;rw[←hy]at ha h4 hx
  have hx0:¬(x:Int)=0:=by omega
  refine wx ?_;simp -dsimp[h0,hx0];refine cPx (hc) (by simp) ?_;simp -dsimp[iU,cap8 out.length (by omega),pred32 x (by omega) hlt,ha];refine hN (y,out++[t]) _ _ ⟨by rw[←hx];simp,by omega⟩ (by simp only;omega) (by simp) ⟨_,by simp[inN_snoc,au];rfl⟩ (by simp) (by simp[au])
theorem ofD_u(v a:Int):aE Tryz.prog 236 [.int .i64 v,.int .i64 a] fun r=>r=dt ⟨v,a,zV⟩:=by
 refine sPx Tryz.func236 rfl rfl ?_;simp -dsimp[Tryz.f236,ou,dt,zV]
theorem both_u(op:Int)(a:Nat):aE Tryz.prog 179 [.int .i64 op,.int .i64 a] fun r=>r=du (iH op a):=by
 have c1:=ofD_u 1 a;have c2:=ofD_u 2 a;simp only[dt]at c1 c2;refine sPx Tryz.func179 rfl rfl ?_;simp -dsimp[Tryz.f179,ou];refine cPx (c1) (by simp) ?_;simp -dsimp[];refine cPx (c2) (by simp) ?_;simp -dsimp[];rfl
def LDn(f:Bool)(ds:List Dn):V:=.lst 2 f (ds.map (gn false))
@[simp] theorem LDn_pure (f:Bool) (ds:List Dn):AM.Pure (LDn f ds):=by simp[LDn]
theorem shr32(a n:Nat)(hn:n≤16):((a:Int)).fdiv (2^min n IntKind.u32.bits)=((a / 2^n:Nat):Int):=by
 have h1:min n IntKind.u32.bits=n:=ri (by show n≤32;omega);rw[h1,Int.fdiv_eq_ediv_of_nonneg _ (by have:(0:Int)<2^n:=Int.pow_pos (by omega);omega)];simp
theorem closV(n:Nat)(d:Fd)(f:Bool)(hn:n≤16)(hd:d.l<4294967296∧d.r<4294967296)(ho:jR n d=true):aE Tryz.prog 177 [.int .i64 n,.lst 2 f [gR d]] fun r=>r = .int .i64 0:=by
 have hn1:¬(16:Int)<n:=by omega
 have hn0:¬(n:Int)<0:=by omega
 have h1:=or32 d.l d.r hd.1 hd.2;have h2:=shr32 (d.l ||| d.r) n hn;unfold jR at ho;rw[decide_eq_true_eq]at ho;rw[ho]at h2
 obtain⟨o,hoe⟩:∃o,o=d.l ||| d.r:=⟨_,rfl⟩
 rw[←hoe]at h1 h2;refine sPx Tryz.func177 rfl rfl ?_;simp -dsimp[Tryz.f177,ou,hn0,hn1,gR];refine aR (W_loopM 31 0x7ffc0050 (by simp[mB]<;>rfl) (σ:=Nat) (fun i=>i≤1) (fun i=>1-i) (fun i=>[(18,.int .i64 i)]) (fun _=>[]) 0 (by omega) (by simp) rfl (by simp) ?_);intro i hi N Q hN hQ;by_cases hb:i=0
 ·subst hb;refine wx ?_;simp -dsimp[h1,h2,show IntKind.i64.wrap (1:Int)=1 from wrap64 (by omega) (by omega)];refine hN 1 _ _ (by omega) (by omega) (by simp) ⟨[B.cells [.int .u32 (d.l:Int),.int .u32 (d.r:Int)]],by simp⟩ (by simp) (by simp)
 ·obtain rfl:i=1:=by omega
  refine wx ?_;simp -dsimp[];refine hQ _ _ _ ?_;simp -dsimp[]
end
end Go.Proofs.YtjogkbekekdkjaaGreatDoor
namespace Go.Proofs.YtjogkbekekdkjaaGreatDoor
section
open Go Go.AM
theorem diffN_bit(r l k:Nat)(hl:l<4294967296)(hr:r<4294967296):(diffN r l).testBit k=(r.testBit k&&!l.testBit k):=by
 unfold diffN;have h:=Nat.testBit_two_pow_sub_succ (x:=l) (n:=32) (by omega) k;rw[show(2:Nat)^32-(l+1)=4294967295-l by omega]at h;rw[Nat.testBit_and,h];by_cases hk:k<32
 ·simp[hk]
 ·have:r.testBit k=false:=rC (pd hr (qD (by omega:0<2) (show 32≤k by omega)));simp[this]
theorem bits_diff(r l:Nat)(hl:l<4294967296)(hr:r<4294967296):iD 32 (diffN r l)=lF l r:=by
 unfold iD lF iD;rw[List.filter_filter];congr 1;funext k;rw[diffN_bit r l k hl hr];cases r.testBit k<;>cases l.testBit k<;>rfl
theorem diff32(r l:Nat)(hl:l<4294967296)(hr:r<4294967296):IntKind.u32.wrap ((r % 2^IntKind.u32.bits &&& (2^IntKind.u32.bits-1-l % 2^IntKind.u32.bits):Nat):Int)=((diffN r l:Nat):Int):=by
 rw[modN r hr,modN l hl];exact u32w _ (qa sB hr)
theorem diffN_lt(r l:Nat)(hr:r<4294967296):diffN r l<4294967296:=qa sB hr
theorem cap104(n:Nat)(h:n≤1000000000):n≤9223372036854775806∧(n+1)*104≤140737488355328:=by omega
theorem cap32d(n:Nat)(h:n≤1000000000):n≤9223372036854775806∧(n+1)*32≤140737488355328:=by omega
theorem inN_at{l:List Nat}{i:Nat}(h:i<l.length):(inN l)[i]?=some ((l[i]:Nat):Int):=by simp[inN,h]
def dnL(L:List Nat)(M:List Nat)(j:Nat):List Dn:=(M.take j).map (jF L)
theorem atoms_rb(n e:Nat)(al:List At)(fz:Bool):rbB n (.buf e 11 (al.map du) fz):=by
 intro x hx;obtain⟨y,_,rfl⟩:=List.mem_map.1 hx;intro c hc;simp only[du,V.cells,pD,pA,or_false]at hc
 rcases hc with rfl | rfl | rfl | rfl | rfl | rfl | rfl | rfl | rfl | rfl | rfl<;>simp[rb,rb1]
theorem dns_rb(n e:Nat)(ds:List Dn)(fz:Bool):rbB n (.buf e 2 (ds.map (gn false)) fz):=by
 intro x hx;obtain⟨y,_,rfl⟩:=List.mem_map.1 hx;intro c hc;simp only[gn,V.cells,pD,pA,or_false]at hc
 rcases hc with rfl | rfl<;>simp[rb,rb1,LA]
theorem fromFD(n:Nat)(d:Fd)(hn:n≤16)(ho:jR n d=true):aE Tryz.prog 126 [.int .i64 n,gR d] fun r=>r = .tup [LDn false ((lF d.l d.r).map (jF (kB d.l))),.int .i64 0]:=by
 obtain⟨hl0,hr0⟩:=fd_lt ho;have hp:=pow16 hn
 have hl:d.l<4294967296:=by omega
 have hr:d.r<4294967296:=by omega
 have c1:=closV n d true hn ⟨hl,hr⟩ ho;have c2:=members_u (diffN d.r d.l) (diffN_lt _ _ hr);rw[bits_diff d.r d.l hl hr]at c2;have c3:=members_u d.l hl;have hd:=diff32 d.r d.l hl hr;obtain⟨L,hL⟩:∃L,L=kB d.l:=⟨_,rfl⟩;rw[show iD 32 d.l=L from hL.symm]at c3;obtain⟨M,hM⟩:∃M,M=lF d.l d.r:=⟨_,rfl⟩;rw[←hM]at c2 ⊢;rw[←hL]
 have hL32:L.length≤32:=by rw[hL];exact jB _ _
 have hM32:M.length≤32:=by rw[hM];exact ph (pY _ _) (jB _ _)
 simp only[gR,L1]at c1 c2 c3
 have hrb:∀ds:List Dn,∀bl∈[B.cells [.int .u32 (d.l:Int),.int .u32 (d.r:Int)],B.buf 60 2 (ds.map (gn false)) false],rbB 2 bl:=fun ds bl hbl=>by
  simp only[pD,pA,or_false]at hbl
  rcases hbl with rfl | rfl
  ·intro c hc;simp at hc;rcases hc with rfl | rfl<;>simp[rb,rb1]
  ·exact dns_rb _ _ _ _
 have hrb4:∀(ds:List Dn) (al:List At) (i:Nat),∀bl∈[B.cells [.int .u32 (d.l:Int),.int .u32 (d.r:Int)],B.buf 60 2 (ds.map (gn false)) false,B.cells [.int .i64 2,.buf 3 0 i i],B.buf 213 11 (al.map du) false],rbB 4 bl:=fun ds al i bl hbl=>by
  simp only[pD,pA,or_false]at hbl
  rcases hbl with rfl | rfl | rfl | rfl
  ·intro c hc;simp at hc;rcases hc with rfl | rfl<;>simp[rb,rb1]
  ·exact dns_rb _ _ _ _
  ·intro c hc;simp at hc;rcases hc with rfl | rfl<;>simp[rb,rb1]
  ·exact atoms_rb _ _ _ _
 refine sPx Tryz.func126 rfl rfl ?_;simp -dsimp[Tryz.f126,ou,gR];refine cPx (c1) (by simp) ?_;simp -dsimp[hd];refine cPx (c2) (by simp) ?_;simp -dsimp[];refine aR (iR 60 2 [7] (by simp) (W_loopM 60 0xffffffff8001680 (by simp[mB]<;>rfl) (σ:=Nat) (fun j=>j≤M.length) (fun j=>M.length-j) (fun j=>[(27,.int .i64 j),(7,.buf 1 0 j j)]) (fun j=>[B.cells [.int .u32 (d.l:Int),.int .u32 (d.r:Int)],B.buf 60 2 ((dnL L M j).map (gn false)) false]) 0 (by omega) (by simp[iU]) (by simp[dnL]) (by simp) ?_));intro j hj N Q hN hQ
 have hjl:(dnL L M j).length=j:=by simp[dnL];omega
 by_cases hb:j<M.length
 ·obtain⟨b,hbe⟩:∃b,b=M[j]:=⟨_,rfl⟩;have hat:=inN_at hb;rw[←hbe]at hat
  have hat':∀h:j<(inN M).length,(inN M)[j]=(b:Int):=fun h=>by simp[inN,hbe]
  have hds:dnL L M (j+1)=dnL L M j++[jF L b]:=by unfold dnL;rw[pJ hb,qB,←hbe];rfl
  refine ie ?_;refine wx ?_;simp -dsimp[hb,iU];refine ie ?_;refine wx ?_;simp -dsimp[];refine ie ?_;refine W_block ?_;refine ie ?_;refine wx ?_;simp -dsimp[hb,iU,hat,hat',au];refine ie ?_;refine wx ?_;simp -dsimp[];refine ie ?_;refine wx ?_;simp -dsimp[];refine cPx (c3) (by simp) ?_;simp -dsimp[]
  have haF:∀i,i≤L.length→((L.take i).map (iH 1)).length=i:=fun i hi=>by simp;omega
  refine aR (dV 213 11 [] 2 [1] rfl (by simp) (by simp) (W_loopM 48 0xfff000001000 (by simp[mB]<;>rfl) (σ:=Nat) (fun i=>i≤L.length) (fun i=>L.length-i) (fun i=>[(36,.int .i64 i)]) (fun i=>[B.cells [.int .u32 (d.l:Int),.int .u32 (d.r:Int)],B.buf 60 2 ((dnL L M j).map (gn false)) false,B.cells [.int .i64 2,.buf 3 0 i i],B.buf 213 11 (((L.take i).map (iH 1)).map du) false]) 0 (by omega) (by simp[iU]) (by simp) (by simp) ?_));intro i hi N2 Q2 hN2 hQ2;have hal:=haF i hi;by_cases hbi:i<L.length
  ·obtain⟨x,hxe⟩:∃x,x=L[i]:=⟨_,rfl⟩;have hax:=inN_at hbi;rw[←hxe]at hax
   have hax':∀h:i<(inN L).length,(inN L)[i]=(x:Int):=fun h=>by simp[inN,hxe]
   have cb:=both_u 1 x;simp only[du,iH,zV]at cb
   have has:(L.take (i+1)).map (iH 1)=(L.take i).map (iH 1)++[iH 1 x]:=by rw[pJ hbi,qB,←hxe];rfl
   obtain⟨al,hae⟩:∃al,al=(L.take i).map (iH 1):=⟨_,rfl⟩;rw[←hae]at hal has ⊢;refine wx ?_;simp -dsimp[hbi,iU,hax,hax',au];refine aR (ao tok mixed [5,7] [] [(du (iH 1 x),[])] (by kernel_rfl) fun C K hC hK=>?_);simp -implicitDefEqProofs [hal,du,iH,zV,cap104 i (by omega)];refine⟨hC _ _ _ _ (aW cb (by simp)),hK _ _ ?_⟩;simp -dsimp[aa i (by omega)];refine hN2 (i+1) _ _ (by omega) (by omega) (by simp[iU]) ⟨[],by simp[has,du,iH,zV]⟩ (by simp) (hrb4 _ _ _)
  ·obtain rfl:i=L.length:=by omega
   have cb:=both_u 2 b;simp only[du,iH,zV]at cb;obtain⟨al,hae⟩:∃al,al=(L.take L.length).map (iH 1):=⟨_,rfl⟩
   have hdn:gn false (jF L b)= .agg [.int .i64 2,.lst 11 false ((al++[iH 2 b]).map du)]:=by rw[hae,pt];rfl
   rw[←hae]at hal ⊢;refine wx ?_;simp -dsimp[hbi,iU];refine hQ2 _ _ _ ?_;simp -dsimp[];refine ie ?_
   refine ao tok mixed [5,7] [] [(.agg [.int .i64 1,.int .i64 (b:Int),.int .i64 0,.int .i64 0,.str pE,.int .i64 2,.int .i64 2,.int .i64 (b:Int),.int .i64 0,.int .i64 0,.str pE],[])] (by kernel_rfl) fun C K hC hK=>?_
   simp -implicitDefEqProofs [hal,cap104 L.length (by omega)];refine⟨hC _ _ _ _ (aW cb (by simp)),hK _ _ ?_⟩;simp only[thenQ_normal];refine eI 3 [] 2 [1] rfl rfl (by simp) (by simp[hal]) ?_;refine wx ?_;simp -dsimp[hjl,cap32d j (by omega),eJ j (by omega)];refine wx ?_;simp -dsimp[aa j (by omega)];refine hN (j+1) _ _ (by omega) (by omega) (by simp[iU]) ⟨[B.cells [.int .i64 2,.lst 11 false (al.map du++[.agg [.int .i64 1,.int .i64 (b:Int),.int .i64 0,.int .i64 0,.str pE,.int .i64 2,.int .i64 2,.int .i64 (b:Int),.int .i64 0,.int .i64 0,.str pE]])],B.buf 213 11 (al.map du++[.agg [.int .i64 1,.int .i64 (b:Int),.int .i64 0,.int .i64 0,.str pE,.int .i64 2,.int .i64 2,.int .i64 (b:Int),.int .i64 0,.int .i64 0,.str pE]]) true],by simp[hds,hdn,du,iH,zV]⟩ (by simp) (hrb _)
 ·obtain rfl:j=M.length:=by omega
  refine gY 1 [7] rfl (by simp[hjl]) ?_;refine wx ?_;simp -dsimp[hb,iU];refine hQ _ _ _ ?_;simp -dsimp[];simp[LDn,dnL]
def kR(K:List Int)(R:List Rw):List Rw:=R.filter fun r=>iI K r.id
def kT(K:List Int)(t:Tb):Tb:=⟨t.name,t.attrs,kR K t.rows⟩
theorem ir{K:List Int}{R:List Rw}{r:Rw} : r∈kR K R↔r∈R∧r.id∈K:=by
 unfold kR;rw[qH,gh]
theorem kR_ord{K:List Int}{R:List Rw}(h:R.Pairwise fun r s=>r.id<s.id):(kR K R).Pairwise fun r s=>r.id<s.id:=h.filter _
theorem ext_kR{K:List Int}{R:List Rw} : ∀{q p:List Rw},lL (kR K R) p q↔lL R p q∧∀r∈q,r.id∈K
 | [],p=>by simp[lL]
 | x::q,p=>by
  rw[lL,lL,ext_kR (q:=q),ir];constructor
  ·rintro⟨⟨a,b⟩,c,d,e⟩;refine⟨⟨a,c,d⟩,fun r hr=>?_⟩
   rcases List.mem_cons.1 hr with rfl | hr
   ·exact b
   ·exact e r hr
  ·rintro⟨⟨a,c,d⟩,e⟩;exact⟨⟨a,e x (pW ..)⟩,c,d,fun r hr=>e r (pZ _ hr)⟩
theorem srt_mem{l:List Int}{a:Int} : a∈srt l↔a∈l:=(nZ l).mem_iff
theorem vd_kR{K:List Int}{R:List Rw}{d:Dn}{x:List Int} : VD (kR K R) d x↔VD R d x∧∀a∈x,a∈K:=by
 unfold VD;constructor
 ·rintro⟨rs,h1,h2,h3,rfl⟩;obtain⟨h4,h5⟩:=ext_kR.1 h2;refine⟨⟨rs,h1,h4,h3,rfl⟩,fun a ha=>?_⟩;obtain⟨r,hr,rfl⟩:=List.mem_map.1 (srt_mem.1 ha);exact h5 r hr
 ·rintro⟨⟨rs,h1,h2,h3,rfl⟩,h⟩;exact⟨rs,h1,ext_kR.2 ⟨h2,fun r hr=>h _ (srt_mem.2 (List.mem_map.2 ⟨r,hr,rfl⟩))⟩,h3,rfl⟩
theorem prL_kR{K:List Int}{P:Rw→Rw→Bool}{R:List Rw}(hR:R.Pairwise fun r s=>r.id<s.id){x:List Int} : x∈prL P (kR K R)↔x∈prL P R∧∀a∈x,a∈K:=by
 rw[lZ (kR_ord hR),lZ hR];constructor
 ·rintro⟨r,hr,s,hs,h1,h2,rfl⟩;obtain⟨a1,a2⟩:=ir.1 hr;obtain⟨b1,b2⟩:=ir.1 hs;refine⟨⟨r,a1,s,b1,h1,h2,rfl⟩,fun a ha=>?_⟩;simp only[pD,pA,or_false]at ha
  rcases ha with rfl | rfl
  ·exact a2
  ·exact b2
 ·rintro⟨⟨r,hr,s,hs,h1,h2,rfl⟩,h⟩;exact⟨r,ir.2 ⟨hr,h _ (by simp)⟩,s,ir.2 ⟨hs,h _ (by simp)⟩,h1,h2,rfl⟩
theorem cnR_kR{K:List Int}{t:Tb}(hR:t.rows.Pairwise fun r s=>r.id<s.id){c:Cn}{x:List Int} : x∈cnR (kT K t) c↔x∈cnR t c∧∀a∈x,a∈K:=by
 unfold cnR;show x∈(if c.kind=1 then prL (fdP c.fd.l c.fd.r) (kR K t.rows) else if c.kind=4 then cfdV c.cfd (kR K t.rows) else if c.kind=5 then prL (odP c.od) (kR K t.rows) else(asR (kR K t.rows) c.dn.vars.toNat).foldl (stR c.dn) [])↔_;by_cases h1:c.kind=1
 ·rw[if_pos h1,if_pos h1];exact prL_kR hR
 rw[if_neg h1,if_neg h1];by_cases h4:c.kind=4
 ·rw[if_pos h4,if_pos h4,mH,mH,pz,pz,prL_kR hR]
  have hm:x∈((kR K t.rows).filter (oW c.cfd)).map (fun r=>[r.id])↔x∈(t.rows.filter (oW c.cfd)).map (fun r=>[r.id])∧∀a∈x,a∈K:=by
   rw[rh,rh];constructor
   ·rintro⟨r,hr,rfl⟩;obtain⟨a1,a2⟩:=List.mem_filter.1 hr;obtain⟨b1,b2⟩:=ir.1 a1;exact⟨⟨r,List.mem_filter.2 ⟨b1,a2⟩,rfl⟩,fun a ha=>by simp at ha;rw[ha];exact b2⟩
   ·rintro⟨⟨r,hr,rfl⟩,h⟩;obtain⟨a1,a2⟩:=List.mem_filter.1 hr;exact⟨r,List.mem_filter.2 ⟨ir.2 ⟨a1,h _ (by simp)⟩,a2⟩,rfl⟩
  rw[hm];constructor
  ·rintro(⟨a,b⟩ | ⟨a,b⟩)
   ·exact⟨.inl a,b⟩
   ·exact⟨.inr a,b⟩
  ·rintro⟨a | a,b⟩
   ·exact .inl ⟨a,b⟩
   ·exact .inr ⟨a,b⟩
 rw[if_neg h4,if_neg h4];by_cases h5:c.kind=5
 ·rw[if_pos h5,if_pos h5];exact prL_kR hR
 rw[if_neg h5,if_neg h5,vd_ref,vd_ref];exact vd_kR
theorem nT{K:List Int}{t:Tb}(hR:t.rows.Pairwise fun r s=>r.id<s.id){cs:List Cn}{x:List Int} : x∈gx (kT K t) cs↔x∈gx t cs∧∀a∈x,a∈K:=by
 unfold gx;rw[rZ,rZ];constructor
 ·rintro⟨c,h1,h2⟩;obtain⟨h3,h4⟩:=(cnR_kR hR).1 h2;exact⟨⟨c,h1,h3⟩,h4⟩
 ·rintro⟨⟨c,h1,h3⟩,h4⟩;exact⟨c,h1,(cnR_kR hR).2 ⟨h3,h4⟩⟩
theorem edges_kR{K:List Int}{t:Tb}(g:TbC t){cs:List Cn}(h:∀c∈cs,eg t c=0):gj (gx (kT K t) cs)=(gj (gx t cs)).filter fun e=>je e K:=by
 have hE:∀d∈gx t cs,EdgL t.rows d:=fun d hd=>iY g h hd
 have a:=io fun e he=>(hE e he).1
 have b:=io (l:=gx (kT K t) cs) fun e he=>(hE e ((nT g.ids).1 he).1).1
 refine b.eq (q:=fun e=>MinM (gx t cs) e∧∀x∈e,x∈K) ⟨a.ord.filter _,fun e=>?_⟩ fun e=>?_
 ·rw[qH,a.mem,iO]
 ·unfold MinM;rw[nT g.ids];constructor
  ·rintro⟨⟨h1,h2⟩,h3⟩;exact⟨⟨h1,fun d hd hs=>h3 d ((nT g.ids).2 ⟨hd,fun x hx=>h2 x (hs x hx)⟩) hs⟩,h2⟩
  ·rintro⟨⟨h1,h3⟩,h2⟩;exact⟨⟨h1,h2⟩,fun d hd hs=>h3 d ((nT g.ids).1 hd).1 hs⟩
theorem kT_ids(K:List Int)(t:Tb):dl (kT K t).rows=(dl t.rows).filter (iI K):=by
 show(kR K t.rows).map (·.id)=(t.rows.map (·.id)).filter (iI K);unfold kR;rw[List.filter_map];rfl
theorem ids_asc{t:Tb}(g:TbC t):(dl t.rows).Pairwise (· < ·):=by
 unfold dl;rw[rX];exact g.ids
theorem edges_hyp{t:Tb}(g:TbC t){cs:List Cn}(h:∀c∈cs,eg t c=0):Hyp (dl t.rows) (gj (gx t cs)):=by
 have hE:∀d∈gx t cs,EdgL t.rows d:=fun d hd=>iY g h hd
 have a:=io fun e he=>(hE e he).1
 have hm:∀e∈gj (gx t cs),MinM (gx t cs) e:=fun e he=>(a.mem e).1 he
 refine⟨ids_asc g,fun e he=>(hE e (hm e he).1).2.1,fun e he=>(hE e (hm e he).1).1,fun e he=>(hE e (hm e he).1).2.2.2,a.ord,?_⟩
 have key:∀x∈gj (gx t cs),∀y∈gj (gx t cs),x≠y→¬∀v∈x,v∈y:=fun x hx y hy hxy hs =>
  hxy (lJ (hE x (hm x hx).1).1 (hE y (hm y hy).1).1 hs ((hm y hy).2 x (hm x hx).1 hs))
 have ho:=a.ord;rw[List.pairwise_iff_getElem]at ho ⊢;intro i j hi hj hij;have hlt:=ho i j hi hj hij
 have hne:(gj (gx t cs))[i]≠(gj (gx t cs))[j]:=fun e=>by rw[e,ln]at hlt;cases hlt
 exact⟨key _ (ow hi) _ (ow hj) hne,key _ (ow hj) _ (ow hi) (Ne.symm hne)⟩
end
end Go.Proofs.YtjogkbekekdkjaaGreatDoor
namespace Go.Proofs.YtjogkbekekdkjaaGreatDoor
section
open Go Go.AM Go.RowKit
theorem cloneO0_K(f:Bool):fQ Tryz.prog 14 [.lst 18 f []] fun e z ys=>e=62∧z=18∧ys=[]:=oh ⟨Tryz.f14,Tryz.func14,rfl,rfl⟩ (fun F w vals hsz hrel=>by
  obtain⟨u0,rfl⟩:∃u0,vals = #[u0]:=by
   obtain⟨l⟩:=vals
   match l,hsz with
   | [a],_=>exact⟨a,rfl⟩
  have r0:=hrel 0 _ u0 rfl rfl;cases r0
  refine(cloneE_K _ _ _).mono fun e' w' ⟨v,he,hown,hb⟩=>⟨v,he,hb,?_⟩
  obtain⟨_,⟨hv,_⟩ | ⟨g,c,cur,hv,hg,hc,hn,hm,hs,_⟩⟩:=hown
  ·exact .inl hv
  ·exact .inr ⟨g,c,cur,hv,hg,hc,hm,hs⟩)
theorem cloneO_K(l:List Cn)(f:Bool)(hl:l.length≤1000000):fQ Tryz.prog 14 [.lst 18 f (l.map cE)] fun e z ys=>e=62∧z=18∧ys=l.map cE:=by
 cases l with
 | nil=>exact cloneO0_K f
 | cons x xs =>
  have hl':xs.length≤1000000:=by simp only[pk]at hl;omega
  refine sOx Tryz.func14 rfl rfl ?_;simp -dsimp[Tryz.f14,ou,oH,capCn xs.length (by omega),cE];exact⟨0,62,18,cE x::xs.map cE,by simp,rfl,by simp,rfl,rfl,rfl⟩
end
end Go.Proofs.YtjogkbekekdkjaaGreatDoor
