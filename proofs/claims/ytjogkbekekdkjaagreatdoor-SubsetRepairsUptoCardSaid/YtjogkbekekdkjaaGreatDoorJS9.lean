/- JS9: own texts of this seat, joined by pack2.py: Rc, Opq, Opr, G2, Cut, G3, G4, OD, Rl, OV, OW, ClR, DV, SO4, DW, CF, CV, CW. -/
import Derived.Test.YtjogkbekekdkjaaGreatDoorJS8
import Derived.WalkSpells
import Derived.WalkLawsBesides
import Derived.Lib.Hide
import Derived.Maps.AppendAt
set_option linter.unusedVariables false
set_option linter.unusedSimpArgs false
set_option maxRecDepth 100000
set_option maxHeartbeats 64000000
namespace Go.Proofs.YtjogkbekekdkjaaGreatDoor
section
open Go Go.AM
structure Snt where
 lv:Int
 lc:Int
 op:Int
 rv:Int
 rc:Int
structure Rul where
 k:Int
 fd:Fd
 cl:Int
 cr:Int
 cs:List Int
 xs:List Int
 ys:List Int
 nv:Int
 sn:List Snt
def encSnt (s:Snt):V:=.agg [.int .u8 s.lv,.int .u8 s.lc,.int .u8 s.op,.int .u8 s.rv,.int .u8 s.rc]
def encRul (r:Rul):V:=.agg [.int .u8 r.k,.int .u8 (r.fd.l:Int),.int .u8 (r.fd.r:Int),.int .u8 r.cl,.int .u8 r.cr,LU r.cs,LU r.xs,LU r.ys,.int .u8 r.nv,.lst 5 false (r.sn.map encSnt)]
@[simp] theorem encSnt_pure (s:Snt):AM.Pure (encSnt s):=by simp [encSnt]
@[simp] theorem encRul_pure (s:Rul):AM.Pure (encRul s):=by simp [encRul,LU,encU]
@[simp] theorem encRul_oneV (s:Rul):oneV (encRul s)=true:=by simp [encRul,oneV,LU,V.one]
structure SntOk (s:Snt):Prop where
 lv:0≤s.lv∧s.lv<256
 lc:0≤s.lc∧s.lc<256
 op:0≤s.op∧s.op<256
 rv:0≤s.rv∧s.rv<256
 rc:0≤s.rc∧s.rc<256
structure RulOk (r:Rul):Prop where
 k:0≤r.k∧r.k<256
 fd:r.fd.l<256∧r.fd.r<256
 cl:0≤r.cl∧r.cl<256
 cr:0≤r.cr∧r.cr<256
 cs:r.cs.length≤9223372036854775807
 csv:∀c∈r.cs,0≤c∧c<256
 xs:r.xs.length≤9223372036854775807
 xsv:∀c∈r.xs,0≤c∧c<256
 ys:r.ys.length≤9223372036854775807
 ysv:∀c∈r.ys,0≤c∧c<256
 nv:0≤r.nv∧r.nv<256
 sn:r.sn.length≤1048576
 snv:∀s∈r.sn,SntOk s
def cfL (s:Int) (b:Nat) (n:Nat):List Int:=((List.range n).filter fun a=>hasB s a&&!decide (a=b)).map fun a:Nat=>(a:Int)
theorem cfL_succ (s:Int) (b n:Nat):cfL s b (n+1)=if (hasB s n&&!decide (n=b))=true then cfL s b n++[(n:Int)] else cfL s b n:=by
 unfold cfL
 rw [List.range_succ,List.filter_append,List.map_append]
 by_cases h:(hasB s n&&!decide (n=b))=true
 ·rw [if_pos h,List.filter_cons_of_pos (p:=fun a=>hasB s a&&!decide (a=b)) h]; rfl
 ·rw [if_neg h,List.filter_cons_of_neg (p:=fun a=>hasB s a&&!decide (a=b)) h]; simp
theorem cfL_mem {s:Int} {b n:Nat} {x:Int} : x∈cfL s b n↔∃a:Nat,x=(a:Int)∧a<n∧hasB s a=true∧a≠b:=by
 unfold cfL
 rw [List.mem_map]
 constructor
 ·rintro ⟨a,ha,rfl⟩
  obtain ⟨h1,h2⟩:=List.mem_filter.1 ha
  simp only [Bool.and_eq_true,Bool.not_eq_true',decide_eq_false_iff_not] at h2
  exact ⟨a,rfl,List.mem_range.1 h1,h2.1,h2.2⟩
 ·rintro ⟨a,rfl,h1,h2,h3⟩
  exact ⟨a,List.mem_filter.2 ⟨List.mem_range.2 h1,by simp [h2,h3]⟩,rfl⟩
theorem cfL_asc (s:Int) (b n:Nat):(cfL s b n).Pairwise (· < ·):=by
 unfold cfL
 rw [List.pairwise_map]
 exact (List.pairwise_lt_range.filter _).imp fun {x y} h=>by omega
theorem cfL_len (s:Int) (b n:Nat):(cfL s b n).length≤n:=by
 unfold cfL
 rw [List.length_map]
 exact Nat.le_trans (List.length_filter_le _ _) (by simp)
def clOf (cs:List Int) (k:Nat):Cl:=if k<cs.length∧¬(cs.getD k 0).tmod 2=0 then ⟨false,ofC (((cs.getD k 0).tdiv 2).tmod 3)⟩ else ⟨true,zV⟩
def cfP (cs:List Int) (m:Nat):List Cl:=(List.range m).map (clOf cs)
theorem cfP_succ (cs:List Int) (m:Nat):cfP cs (m+1)=cfP cs m++[clOf cs m]:=by simp [cfP,List.range_succ]
theorem cfP_len (cs:List Int) (m:Nat):(cfP cs m).length=m:=by simp [cfP]
def cfR (n:Nat) (b:Int):Nat:=(b.tmod n).toNat
def cfOf (n:Nat) (s b:Int) (cs:List Int):Cfd:=⟨cfL s (cfR n b) n,(cfR n b:Int),cfP cs ((cfL s (cfR n b) n).length+1)⟩
theorem cfR_lt {n:Nat} {b:Int} (hn:0<n) (hb:0≤b):(cfR n b:Int)=b.tmod n∧cfR n b<n:=by
 unfold cfR
 have h1:=Int.tmod_nonneg (n:Int) hb
 have h2:=Int.tmod_lt_of_pos b (show (0:Int)<n by omega)
 omega
theorem asc_of {n r:Int} : ∀{l:List Int} {b:Int},(∀a∈l,b<a)→l.Pairwise (· < ·)→(∀a∈l,a<n∧a≠r)→ascI n r b l=true
 | [],_,_,_,_=>rfl
 | a::l,b,h1,h2,h3=>by
  rw [List.pairwise_cons] at h2
  have a1:=h1 a (List.mem_cons_self ..)
  obtain ⟨a2,a3⟩:=h3 a (List.mem_cons_self ..)
  rw [ascI,asc_of (b:=a) h2.1 h2.2 fun x hx=>h3 x (List.mem_cons_of_mem _ hx)]
  simp [a1,a2,a3]
theorem ofV_val (m:Int):validV (ofV m)=true:=by
 unfold ofV
 repeat' split
 all_goals kernel_rfl
theorem clOf_ok (cs:List Int) (k:Nat):clB (clOf cs k)=true:=by
 unfold clOf
 split
 ·exact ofV_val _
 ·kernel_rfl
theorem cfOf_ok {n:Nat} (hn:0<n) (s b:Int) (hb:0≤b) (cs:List Int):cfB n (cfOf n s b cs)=true:=by
 obtain ⟨h1,h2⟩:=cfR_lt hn hb
 unfold cfB cfOf
 simp only [cfP_len]
 have ha:ascI n (cfR n b:Int) (-1) (cfL s (cfR n b) n)=true:=asc_of (fun a h=>by obtain ⟨k,rfl,_⟩:=cfL_mem.1 h; omega) (cfL_asc _ _ _) fun a h=>by
  obtain ⟨k,rfl,h3,_,h4⟩:=cfL_mem.1 h
  omega
 have hp:(cfP cs ((cfL s (cfR n b) n).length+1)).all clB=true:=by
  rw [List.all_eq_true]
  intro c hc
  obtain ⟨k,_,rfl⟩:=List.mem_map.1 hc
  exact clOf_ok _ _
 rw [ha,hp]
 simp
 omega
def mbF (n:Nat) (l:List Int):List Int:=if n=0 then [] else (l.take 5).map fun x=>x.tmod n
theorem mbF_ok {n:Nat} {l:List Int} (hl:∀c∈l,0≤c∧c<256):olB n (mbF n l)=true:=by
 unfold olB mbF
 split
 ·rfl
 ·rename_i h0
  rw [Bool.and_eq_true,decide_eq_true_eq,List.all_eq_true]
  refine ⟨by simp; omega,fun a ha=>?_⟩
  obtain ⟨c,hc,rfl⟩:=List.mem_map.1 ha
  have h1:=Int.tmod_nonneg (n:Int) (hl c (List.mem_of_mem_take hc)).1
  have h2:=Int.tmod_lt_of_pos c (show (0:Int)<n by omega)
  simp [inB]
  omega
def odOf (n:Nat) (xs ys:List Int):Od:=⟨mbF n xs,mbF n ys⟩
def tmOf (n:Nat) (vars:Int) (v c:Int):Tm:=if v.tmod (vars+1)=0∨n=0 then ⟨0,0,ofC c⟩ else ⟨v.tmod (vars+1),c.tmod n,zV⟩
def atOf (n:Nat) (vars:Int) (s:Snt):At:=⟨tmOf n vars s.lv s.lc,1+s.op.tmod 4,tmOf n vars s.rv s.rc⟩
def dnOf (n:Nat) (nv:Int) (sn:List Snt):Dn:=⟨1+nv.tmod 3,sn.map (atOf n (1+nv.tmod 3))⟩
theorem tmOf_ok {n:Nat} {vars v c:Int} (h1:1≤vars) (hv:0≤v) (hc:0≤c):tmB n vars (tmOf n vars v c)=true:=by
 unfold tmOf
 split
 ·unfold tmB
  rw [if_pos rfl]
  show (decide ((0:Int)=0)&&validV (ofV _))=true
  rw [ofV_val]; rfl
 ·rename_i h
  have a1:=Int.tmod_nonneg (vars+1) hv
  have a2:=Int.tmod_lt_of_pos v (show (0:Int)<vars+1 by omega)
  have b1:=Int.tmod_nonneg (n:Int) hc
  have b2:=Int.tmod_lt_of_pos c (show (0:Int)<n by omega)
  unfold tmB
  rw [if_neg (by show ¬v.tmod (vars+1)=0; omega)]
  show (decide (1≤v.tmod (vars+1))&&(decide (v.tmod (vars+1)≤vars)&&(decide (0≤c.tmod n)&&(decide (c.tmod n<n)&&zeroV zV))))=true
  rw [decide_eq_true (by omega),decide_eq_true (by omega),decide_eq_true (by omega),decide_eq_true (by omega)]
  kernel_rfl
theorem dnOf_ok {n:Nat} {nv:Int} (hv:0≤nv) {sn:List Snt} (h5:sn.length≤5) (hs:∀s∈sn,SntOk s):dnB n (dnOf n nv sn)=true:=by
 have h1:=Int.tmod_nonneg 3 hv
 have h2:=Int.tmod_lt_of_pos nv (show (0:Int)<3 by omega)
 unfold dnB dnOf
 simp only [List.length_map,Bool.and_eq_true,decide_eq_true_eq,List.all_eq_true]
 refine ⟨by omega,by omega,by omega,fun a ha=>?_⟩
 obtain ⟨s,hm,rfl⟩:=List.mem_map.1 ha
 have hk:=hs s hm
 have o1:=Int.tmod_nonneg 4 hk.op.1
 have o2:=Int.tmod_lt_of_pos s.op (show (0:Int)<4 by omega)
 unfold atB atOf
 simp only [Bool.and_eq_true,decide_eq_true_eq]
 exact ⟨by omega,by omega,tmOf_ok (by omega) hk.lv.1 hk.lc.1,tmOf_ok (by omega) hk.rv.1 hk.rc.1⟩
def strR:ByteArray:=⟨#[114]⟩
def strC:ByteArray:=⟨#[99]⟩
def cn0:Cn:=⟨strC,strR,0,⟨0,0⟩,0,0,ByteArray.empty,[],ByteArray.empty,[],⟨[],0,[]⟩,⟨[],[]⟩,⟨0,[]⟩⟩
def cnOf (n:Nat) (r:Rul):Cn :=
 if r.k.tmod 5=1∧0<n then { cn0 with kind:=4,cfd:=cfOf n r.cl r.cr r.cs } else
 if r.k.tmod 5=2 then { cn0 with kind:=5,od:=odOf n r.xs r.ys } else
 if r.k.tmod 5=3 then { cn0 with kind:=6,dn:=dnOf n r.nv r.sn } else
 { cn0 with kind:=1,fd:=fdOf n r.fd }
def cnOk (r:Rul):Bool:=!decide (r.k.tmod 5=3)||decide (r.sn.length≤5)
theorem fullN_lt2:∀n,fullN n<2^n
 | 0=>by simp [fullN]
 | i+1=>Nat.or_lt_two_pow (n:=i+1) (Nat.lt_trans (fullN_lt2 i) (Nat.pow_lt_pow_right (by omega) (by omega))) (Nat.pow_lt_pow_right (by omega) (by omega))
theorem cnOf_ok {t:Tb} (ht:t.name=strR) {r:Rul} (h:RulOk r) (hk:cnOk r=true):cnErr t (cnOf t.attrs.length r)=0:=by
 have hname:∀c:Cn,c.table=strR→(c.table.toList == t.name.toList)=true:=fun c hc=>by rw [hc,ht]; exact beq_self_eq_true _
 unfold cnErr cnOf
 by_cases h1:r.k.tmod 5=1∧0<t.attrs.length
 ·rw [if_pos h1]
  rw [if_pos (by rw [hname _ rfl]; rfl),if_neg (by show ¬((4:Int)=2∨(4:Int)=3); omega),if_neg (by show ¬(4:Int)=1; omega),if_pos rfl]
  exact if_pos (cfOf_ok h1.2 _ _ h.cr.1 _)
 rw [if_neg h1]
 by_cases h2:r.k.tmod 5=2
 ·rw [if_pos h2]
  rw [if_pos (by rw [hname _ rfl]; rfl),if_neg (by show ¬((5:Int)=2∨(5:Int)=3); omega),if_neg (by show ¬(5:Int)=1; omega),if_neg (by show ¬(5:Int)=4; omega),if_pos rfl]
  refine if_pos ?_
  show (olB _ (mbF _ r.xs)&&olB _ (mbF _ r.ys))=true
  rw [mbF_ok h.xsv,mbF_ok h.ysv]; rfl
 rw [if_neg h2]
 by_cases h3:r.k.tmod 5=3
 ·rw [if_pos h3]
  rw [if_pos (by rw [hname _ rfl]; rfl),if_neg (by show ¬((6:Int)=2∨(6:Int)=3); omega),if_neg (by show ¬(6:Int)=1; omega),if_neg (by show ¬(6:Int)=4; omega),if_neg (by show ¬(6:Int)=5; omega)]
  unfold cnOk at hk
  rw [h3] at hk
  exact if_pos (dnOf_ok h.nv.1 (by simpa using hk) h.snv)
 rw [if_neg h3]
 rw [if_pos (by rw [hname _ rfl]; rfl),if_neg (by show ¬((1:Int)=2∨(1:Int)=3); omega),if_pos rfl]
 refine if_pos ?_
 have hf:=fullN_lt2 t.attrs.length
 unfold fdOk1
 rw [decide_eq_true_eq]
 refine Nat.div_eq_of_lt (Nat.or_lt_two_pow ?_ ?_)
 ·exact Nat.lt_of_le_of_lt Nat.and_le_right hf
 ·exact Nat.lt_of_le_of_lt Nat.and_le_right hf
def tbOf (x:Rcp):Tb:=wideT x (x.a.tmod 6).toNat
theorem rowsErr_of {n:Nat} : ∀{rs:List Rw} {last:Int},(∀r∈rs,last<r.id)→(∀r∈rs,r.vals.length=n)→(∀r∈rs,∀v∈r.vals,validV v=true)→rs.Pairwise (fun a b=>a.id<b.id)→rowsErr n last rs=0
 | [],_,_,_,_,_=>rfl
 | r::rs,last,h1,h2,h3,h4=>by
  have a1:=h1 r List.mem_cons_self
  have a2:=h2 r List.mem_cons_self
  have a3:r.vals.all validV=true:=List.all_eq_true.2 (h3 r List.mem_cons_self)
  rw [List.pairwise_cons] at h4
  rw [rowsErr,if_neg (by omega),if_neg (by omega),a3,if_pos rfl]
  exact rowsErr_of h4.1 (fun r' hr=>h2 r' (List.mem_cons_of_mem _ hr)) (fun r' hr=>h3 r' (List.mem_cons_of_mem _ hr)) h4.2
theorem wideT_rows {x:Rcp} {n:Nat} (hg:0≤x.gap):(∀r∈(wideT x n).rows,0<r.id∧r.vals.length=n∧∀v∈r.vals,∃m,v=ofV m)∧(wideT x n).rows.Pairwise fun a b=>a.id<b.id:=by
 have h0:=Int.tmod_nonneg 3 hg
 constructor
 ·intro r hr
  obtain ⟨i,hi,rfl⟩:=List.mem_map.1 hr
  refine ⟨?_,wVals_len _ _,fun v hv=>?_⟩
  ·show 0<1+(i:Int)*(1+x.gap.tmod 3)
   have:=Int.mul_nonneg (show (0:Int)≤i by omega) (show 0≤1+x.gap.tmod 3 by omega)
   omega
  ·obtain ⟨j,_,rfl⟩:=List.mem_map.1 hv
   exact ⟨_,rfl⟩
 ·show ((List.range x.rows.length).map _).Pairwise _
  rw [List.pairwise_map]
  refine List.Pairwise.imp ?_ List.pairwise_lt_range
  intro i j hij
  show 1+(i:Int)*(1+x.gap.tmod 3)<1+(j:Int)*(1+x.gap.tmod 3)
  have:=Int.mul_lt_mul_of_pos_right (show (i:Int)<j by omega) (show 0<1+x.gap.tmod 3 by omega)
  omega
theorem names_few:∀n,n<6→namesB (L8.take n)=true
 | 0,_=>by kernel_rfl
 | 1,_=>by kernel_rfl
 | 2,_=>by kernel_rfl
 | 3,_=>by kernel_rfl
 | 4,_=>by kernel_rfl
 | 5,_=>by kernel_rfl
 | n+6,h=>by omega
theorem ofV_sz (m:Int):(ofV m).s.size≤maxLen:=by
 unfold ofV
 repeat' split
 all_goals decide
theorem tbOf_name (x:Rcp):(tbOf x).name=strR:=rfl
structure RcpOk (x:Rcp):Prop where
 a:0≤x.a∧x.a<256
 gap:0≤x.gap
 rows:x.rows.length≤6
 len:∀r∈x.rows,r.length≤9223372036854775807
theorem tbOf_n {x:Rcp} (h:0≤x.a):(x.a.tmod 6).toNat<6∧(((x.a.tmod 6).toNat:Nat):Int)=x.a.tmod 6:=by
 have h1:=Int.tmod_nonneg 6 h
 have h2:=Int.tmod_lt_of_pos x.a (show (0:Int)<6 by omega)
 omega
theorem list_mapq {α:Type} {enc:α→V} {p:α→Prop} : ∀{xs:List V},(∀x∈xs,∃a,x=enc a∧p a)→∃ys:List α,xs=ys.map enc∧∀y∈ys,p y
 | [],_=>⟨[],rfl,by simp⟩
 | x::xs,h=>by
  obtain ⟨a,rfl,ha⟩:=h x (by simp)
  obtain ⟨ys,rfl,hy⟩:=list_mapq (xs:=xs) (fun y hy=>h y (by simp [hy]))
  exact ⟨a::ys,rfl,fun y hm=>(List.mem_cons.1 hm).elim (fun e=>e▸ha) (hy y)⟩
theorem shq_u8 {n Bd:Nat} {ws:List V} (h:ShB T Bd (n+1) 5 ws):∃m:Int,ws=[.int .u8 m]∧0≤m∧m<256:=by
 simp [ShB] at h
 obtain ⟨m,rfl,hm⟩:=h
 refine ⟨m,rfl,?_⟩
 simp [Lit.wf,IntKind.min,IntKind.max,IntKind.signed,IntKind.bits] at hm
 omega
theorem shq_i64 {n Bd:Nat} {ws:List V} (h:ShB T Bd (n+1) 2 ws):∃m:Int,ws=[.int .i64 m]:=by
 simp [ShB] at h
 obtain ⟨m,rfl,hm⟩:=h
 exact ⟨m,rfl⟩
theorem shq_fld {n Bd t:Nat} {i:TI} {fs:Array Field} {sz:Nat} {ws:List V} (h:ShB T Bd (n+1) t ws) (hT:T t=some i) (hd:i.desc = .struct fs) (hs:i.size=sz):ws.length=sz∧∀(k:Nat) f j,fs[k]?=some f→T f.type=some j→ShB T Bd n f.type ((ws.drop f.offset).take j.size):=by
 rw [ShB] at h
 simp only [hT,hd] at h
 refine ⟨by rw [←hs]; exact h.1,fun k f j hk hj=>?_⟩
 obtain ⟨j',h1,h2⟩:=h.2 f (by rw [Array.mem_toList_iff]; exact Array.mem_of_getElem? hk)
 rw [hj] at h1
 cases h1
 exact h2
theorem shq_lstB {n Bd t e:Nat} {i j:TI} {ws:List V} (h:ShB T Bd (n+1) t ws) (hT:T t=some i) (hd:i.desc = .slice e) (hj:T e=some j):∃xs,ws=[.lst j.size false xs]∧xs.length≤maxLen∧xs.length≤Bd∧∀x∈xs,∃ws,ShB T Bd n e ws∧ws.length=j.size∧x=(if isAggD j.desc then .agg ws else ws.headD .undef):=by
 rw [ShB] at h
 simp only [hT,hd,hj] at h
 exact h
theorem shq_lst {n Bd t e:Nat} {i j:TI} {ws:List V} (h:ShB T Bd (n+1) t ws) (hT:T t=some i) (hd:i.desc = .slice e) (hj:T e=some j):∃xs,ws=[.lst j.size false xs]∧xs.length≤maxLen∧∀x∈xs,∃ws,ShB T Bd n e ws∧ws.length=j.size∧x=(if isAggD j.desc then .agg ws else ws.headD .undef):=by
 obtain ⟨xs,h1,h2,_,h3⟩:=shq_lstB h hT hd hj
 exact ⟨xs,h1,h2,h3⟩
theorem shq_u8s {n Bd:Nat} {ws:List V} (h:ShB T Bd (n+2) 26 ws):∃ns:List Int,ws=[LU ns]∧ns.length≤maxLen∧∀c∈ns,0≤c∧c<256:=by
 obtain ⟨ys,rfl,hl2,hy⟩:=shq_lst h T_26 rfl T_5
 obtain ⟨ns,rfl,hn⟩:∃ns:List Int,ys=ns.map encU∧∀c∈ns,0≤c∧c<256:=list_mapq fun y hym=>by
  obtain ⟨ws,hs,_,rfl⟩:=hy y hym
  obtain ⟨m,rfl,hm⟩:=shq_u8 hs
  exact ⟨m,by simp [isAggD,encU],hm⟩
 exact ⟨ns,by simp [LU],by simpa using hl2,hn⟩
theorem shq_rows {n Bd:Nat} {ws:List V} (h:ShB T Bd (n+3) 22 ws):∃rs:List (List Int),ws=[.lst 1 false (rs.map LU)]∧rs.length≤maxLen∧∀r∈rs,r.length≤maxLen:=by
 obtain ⟨xs,rfl,hl,hx⟩:=shq_lst h T_22 rfl T_26
 obtain ⟨rs,rfl,hr⟩:∃rs:List (List Int),xs=rs.map LU∧∀r∈rs,r.length≤maxLen:=list_mapq fun x hxm=>by
  obtain ⟨ws,hs,_,rfl⟩:=hx x hxm
  obtain ⟨ns,rfl,h1,_⟩:=shq_u8s hs
  exact ⟨ns,by simp [isAggD],h1⟩
 exact ⟨rs,rfl,by simpa using hl,hr⟩
theorem shq_recipe {n Bd:Nat} {ws:List V} (h:ShB T Bd (n+4) 24 ws):∃r:Rcp,ws=[.int .u8 r.a,.int .u8 r.gap,.lst 1 false (r.rows.map LU)]∧(0≤r.a∧r.a<256)∧0≤r.gap∧r.rows.length≤maxLen∧∀x∈r.rows,x.length≤maxLen:=by
 obtain ⟨hlen,hf⟩:=shq_fld h T_24 rfl rfl
 obtain ⟨a,b,c,rfl⟩:∃a b c,ws=[a,b,c]:=by
  match ws,hlen with
  | [a,b,c],_=>exact ⟨a,b,c,rfl⟩
 obtain ⟨m,e1,p1⟩:=shq_u8 (hf 0 _ _ rfl T_5)
 obtain ⟨k,e2,q1,q2⟩:=shq_u8 (hf 1 _ _ rfl T_5)
 obtain ⟨rs,e3,l1,l2⟩:=shq_rows (hf 2 _ _ rfl T_22)
 simp at e1 e2 e3
 subst e1
 subst e2
 subst e3
 exact ⟨⟨m,k,rs⟩,rfl,p1,q1,l1,l2⟩
theorem shq_dep {n Bd:Nat} {ws:List V} (h:ShB T Bd (n+2) 91 ws):∃d:Fd,ws=[.int .u8 (d.l:Int),.int .u8 (d.r:Int)]∧d.l<256∧d.r<256:=by
 obtain ⟨hlen,hf⟩:=shq_fld h T_91 rfl rfl
 obtain ⟨a,b,rfl⟩:∃a b,ws=[a,b]:=by
  match ws,hlen with
  | [a,b],_=>exact ⟨a,b,rfl⟩
 obtain ⟨m,e1,p1,p2⟩:=shq_u8 (hf 0 _ _ rfl T_5)
 obtain ⟨k,e2,q1,q2⟩:=shq_u8 (hf 1 _ _ rfl T_5)
 simp at e1 e2
 subst e1
 subst e2
 refine ⟨⟨m.toNat,k.toNat⟩,?_,by simp only; omega,by simp only; omega⟩
 simp [Int.toNat_of_nonneg p1,Int.toNat_of_nonneg q1]
theorem shq_side {n Bd:Nat} {ws:List V} (h:ShB T Bd (n+2) 206 ws):∃v c:Int,ws=[.int .u8 v,.int .u8 c]∧(0≤v∧v<256)∧(0≤c∧c<256):=by
 obtain ⟨hlen,hf⟩:=shq_fld h T_206 rfl rfl
 obtain ⟨a,b,rfl⟩:∃a b,ws=[a,b]:=by
  match ws,hlen with
  | [a,b],_=>exact ⟨a,b,rfl⟩
 obtain ⟨m,e1,p1⟩:=shq_u8 (hf 0 _ _ rfl T_5)
 obtain ⟨k,e2,q1⟩:=shq_u8 (hf 1 _ _ rfl T_5)
 simp at e1 e2
 subst e1
 subst e2
 exact ⟨m,k,rfl,p1,q1⟩
theorem shq_snt {n Bd:Nat} {ws:List V} (h:ShB T Bd (n+3) 208 ws):∃s:Snt,ws=[.int .u8 s.lv,.int .u8 s.lc,.int .u8 s.op,.int .u8 s.rv,.int .u8 s.rc]∧SntOk s:=by
 obtain ⟨hlen,hf⟩:=shq_fld h T_208 rfl rfl
 obtain ⟨a,b,c,d,e,rfl⟩:∃a b c d e,ws=[a,b,c,d,e]:=by
  match ws,hlen with
  | [a,b,c,d,e],_=>exact ⟨a,b,c,d,e,rfl⟩
 obtain ⟨v,x,e1,p1,p2⟩:=shq_side (show ShB T Bd (n+2) 206 [a,b] from hf 0 _ _ rfl T_206)
 obtain ⟨o,e2,q1⟩:=shq_u8 (hf 1 _ _ rfl T_5)
 obtain ⟨w,y,e3,r1,r2⟩:=shq_side (show ShB T Bd (n+2) 206 [d,e] from hf 2 _ _ rfl T_206)
 simp at e1 e2 e3
 obtain ⟨rfl,rfl⟩:=e1
 obtain ⟨rfl,rfl⟩:=e3
 subst e2
 exact ⟨⟨v,x,o,w,y⟩,rfl,⟨p1,p2,q1,r1,r2⟩⟩
theorem shq_snts {n Bd:Nat} {ws:List V} (h:ShB T Bd (n+4) 96 ws):∃l:List Snt,ws=[.lst 5 false (l.map encSnt)]∧l.length≤Bd∧∀s∈l,SntOk s:=by
 obtain ⟨xs,rfl,_,hl,hx⟩:=shq_lstB h T_96 rfl T_208
 obtain ⟨l,rfl,hs⟩:∃l:List Snt,xs=l.map encSnt∧∀s∈l,SntOk s:=list_mapq fun x hxm=>by
  obtain ⟨ws,hs,_,rfl⟩:=hx x hxm
  obtain ⟨s,rfl,h1⟩:=shq_snt hs
  exact ⟨s,by simp [isAggD,encSnt],h1⟩
 exact ⟨l,rfl,by simpa using hl,hs⟩
theorem shq_rule {n Bd:Nat} (hB:Bd≤1048576) {ws:List V} (h:ShB T Bd (n+6) 100 ws):∃r:Rul,.agg ws=encRul r∧RulOk r:=by
 obtain ⟨hlen,hf⟩:=shq_fld h T_100 rfl rfl
 obtain ⟨a,b,c,d,e,f,g,i,j,k,rfl⟩:∃a b c d e f g i j k,ws=[a,b,c,d,e,f,g,i,j,k]:=by
  match ws,hlen with
  | [a,b,c,d,e,f,g,i,j,k],_=>exact ⟨a,b,c,d,e,f,g,i,j,k,rfl⟩
 obtain ⟨kk,e0,p0⟩:=shq_u8 (hf 0 _ _ rfl T_5)
 obtain ⟨fd,e1,p1⟩:=shq_dep (show ShB T Bd (n+3+2) 91 [b,c] from hf 1 _ _ rfl T_91)
 obtain ⟨_,hc⟩:=shq_fld (show ShB T Bd (n+4+1) 93 [d,e,f] from hf 2 _ _ rfl T_93) T_93 rfl rfl
 obtain ⟨cl,e2,p2⟩:=shq_u8 (hc 0 _ _ rfl T_5)
 obtain ⟨cr,e3,p3⟩:=shq_u8 (hc 1 _ _ rfl T_5)
 obtain ⟨cs,e4,p4,p4'⟩:=shq_u8s (show ShB T Bd (n+2+2) 26 [f] from hc 2 _ _ rfl T_26)
 obtain ⟨_,ho⟩:=shq_fld (show ShB T Bd (n+4+1) 95 [g,i] from hf 3 _ _ rfl T_95) T_95 rfl rfl
 obtain ⟨xs,e5,p5,p5'⟩:=shq_u8s (show ShB T Bd (n+2+2) 26 [g] from ho 0 _ _ rfl T_26)
 obtain ⟨ys,e6,p6,p6'⟩:=shq_u8s (show ShB T Bd (n+2+2) 26 [i] from ho 1 _ _ rfl T_26)
 obtain ⟨_,hd⟩:=shq_fld (show ShB T Bd (n+4+1) 98 [j,k] from hf 4 _ _ rfl T_98) T_98 rfl rfl
 obtain ⟨nv,e7,p7⟩:=shq_u8 (hd 0 _ _ rfl T_5)
 obtain ⟨sn,e8,p8,p8'⟩:=shq_snts (show ShB T Bd (n+4) 96 [k] from hd 1 _ _ rfl T_96)
 simp at e0 e1 e2 e3 e4 e5 e6 e7 e8
 obtain ⟨rfl,rfl⟩:=e1
 subst e0 e2 e3 e4 e5 e6 e7 e8
 exact ⟨⟨kk,fd,cl,cr,cs,xs,ys,nv,sn⟩,rfl,⟨p0,p1,p2,p3,p4,p4',p5,p5',p6,p6',p7,Nat.le_trans p8 hB,p8'⟩⟩
theorem shq_rules {n Bd:Nat} (hB:Bd≤1048576) {ws:List V} (h:ShB T Bd (n+7) 25 ws):∃l:List Rul,ws=[.lst 10 false (l.map encRul)]∧l.length≤1048576∧∀r∈l,RulOk r:=by
 obtain ⟨xs,rfl,_,hl,hx⟩:=shq_lstB h T_25 rfl T_100
 obtain ⟨l,rfl,hs⟩:∃l:List Rul,xs=l.map encRul∧∀r∈l,RulOk r:=list_mapq fun x hxm=>by
  obtain ⟨ws,hs,_,rfl⟩:=hx x hxm
  obtain ⟨r,h1,h2⟩:=shq_rule hB hs
  exact ⟨r,by simpa [isAggD] using h1,h2⟩
 exact ⟨l,rfl,by simp at hl; omega,hs⟩
structure CnSz (c:Cn):Prop where
 p:∀x∈c.cfd.p,x.x.s.size≤maxLen
 a:∀x∈c.dn.atoms,x.l.x.s.size≤maxLen∧x.r.x.s.size≤maxLen
 tab:c.table.size≤maxLen
 fd:c.fd.l<4294967296∧c.fd.r<4294967296
def ixP {α:Type} (p:α→Bool) (es:List α) (i:Nat):Int:=if h:i<es.length then (if p es[i] then (i:Int) else ixP p es (i+1)) else -1
termination_by es.length - i
theorem ixP_any {α:Type} (p:α→Bool) (es:List α) (i:Nat):decide (0≤ixP p es i)=(es.drop i).any p:=by
 fun_induction ixP p es i with
 | case1 i h h0=>rw [List.drop_eq_getElem_cons h,List.any_cons,h0]; simp
 | case2 i h h0 ih=>rw [List.drop_eq_getElem_cons h,List.any_cons,ih]; simp [h0]
 | case3 i h=>rw [List.drop_of_length_le (by omega)]; rfl
theorem ix_A (H:List B) (fv:V) (p:At→Bool) (es:List At) (g:Bool) (hes:es.length≤1000000) (hH:∀bl∈H,rbB H.length bl) (hfv:rb H.length fv)
  (hp:∀m∈es,WCall Tryz.prog fv [encAt m] H fun r H'=>r = .bool (p m)∧H'=H):ConH Tryz.prog 237 [LA g es,fv] H fun r H'=>r = .int .i64 (ixP p es 0)∧H'=H:=by
 refine conH_of_W tok Tryz.func237 rfl rfl ?_
 refine wx ?_
 simp -implicitDefEqProofs -dsimp [Tryz.f237,List.replicate,LA]
 refine lw_of (W_loopM 19 [4,5,8,9,10,11,12,13,14,15,16,17,18] (by simp [mB]<;>rfl) (σ:=Nat) (fun i=>ixP p es i=ixP p es 0) (fun i=>es.length - i) (fun i=>[(8,.int .i64 i)]) (fun _=>H) 0 rfl (by simp) rfl (by simp) ?_)
 intro i hx N Q hN hQ
 by_cases hb:i<es.length
 ·rw [ixP,dif_pos hb] at hx
  have hc:=hp es[i] (List.getElem_mem hb)
  cases hq:p es[i]
  ·rw [hq] at hc hx
   refine wx ?_
   simp -implicitDefEqProofs -dsimp [hb]
   refine hc.mono ?_
   rintro r H' ⟨rfl,rfl⟩
   simp -implicitDefEqProofs -dsimp [wrapS i (by omega)]
   refine hN (i+1) _ _ (by simpa using hx) (by omega) (by simp) ⟨[],by simp⟩ (by simp; exact hfv) hH
  ·rw [hq] at hc hx
   refine wx ?_
   simp -implicitDefEqProofs -dsimp [hb]
   refine hc.mono ?_
   rintro r H' ⟨rfl,rfl⟩
   simp -implicitDefEqProofs -dsimp []
   refine hQ _ _ _ ?_
   simp -implicitDefEqProofs -dsimp []
   simpa using hx
 ·rw [ixP,dif_neg hb] at hx
  refine wx ?_
  simp -implicitDefEqProofs -dsimp [hb]
  refine hQ _ _ _ ?_
  simp -implicitDefEqProofs -dsimp []
  simpa using hx
theorem cont_A (H:List B) (fv:V) (p:At→Bool) (es:List At) (g:Bool) (hes:es.length≤1000000) (hH:∀bl∈H,rbB H.length bl) (hfv:rb H.length fv)
  (hp:∀m∈es,WCall Tryz.prog fv [encAt m] H fun r H'=>r = .bool (p m)∧H'=H):ConH Tryz.prog 180 [LA g es,fv] H fun r H'=>r = .bool (es.any p)∧H'=H:=by
 have h0:=ixP_any p es 0
 rw [List.drop_zero] at h0
 have hc:=ix_A H fv p es g hes hH hfv hp
 refine conH_of_W tok Tryz.func180 rfl rfl ?_
 refine wx ?_
 simp -implicitDefEqProofs -dsimp [Tryz.f180,List.replicate]
 refine WCall.mono (K:=fun r H'=>r = .int .i64 (ixP p es 0)∧H'=H) hc ?_
 rintro r H' ⟨rfl,rfl⟩
 simp -implicitDefEqProofs -dsimp []
 rw [←h0]
theorem ix_L (H:List B) (fv:V) (p:Cl→Bool) (es:List Cl) (g:Bool) (hes:es.length≤1000000) (hH:∀bl∈H,rbB H.length bl) (hfv:rb H.length fv)
  (hp:∀m∈es,WCall Tryz.prog fv [encCl m] H fun r H'=>r = .bool (p m)∧H'=H):ConH Tryz.prog 238 [LCl g es,fv] H fun r H'=>r = .int .i64 (ixP p es 0)∧H'=H:=by
 refine conH_of_W tok Tryz.func238 rfl rfl ?_
 refine wx ?_
 simp -implicitDefEqProofs -dsimp [Tryz.f238,List.replicate,LCl]
 refine lw_of (W_loopM 19 [4,5,8,9,10,11,12,13,14,15,16,17,18] (by simp [mB]<;>rfl) (σ:=Nat) (fun i=>ixP p es i=ixP p es 0) (fun i=>es.length - i) (fun i=>[(8,.int .i64 i)]) (fun _=>H) 0 rfl (by simp) rfl (by simp) ?_)
 intro i hx N Q hN hQ
 by_cases hb:i<es.length
 ·rw [ixP,dif_pos hb] at hx
  have hc:=hp es[i] (List.getElem_mem hb)
  cases hq:p es[i]
  ·rw [hq] at hc hx
   refine wx ?_
   simp -implicitDefEqProofs -dsimp [hb]
   refine hc.mono ?_
   rintro r H' ⟨rfl,rfl⟩
   simp -implicitDefEqProofs -dsimp [wrapS i (by omega)]
   refine hN (i+1) _ _ (by simpa using hx) (by omega) (by simp) ⟨[],by simp⟩ (by simp; exact hfv) hH
  ·rw [hq] at hc hx
   refine wx ?_
   simp -implicitDefEqProofs -dsimp [hb]
   refine hc.mono ?_
   rintro r H' ⟨rfl,rfl⟩
   simp -implicitDefEqProofs -dsimp []
   refine hQ _ _ _ ?_
   simp -implicitDefEqProofs -dsimp []
   simpa using hx
 ·rw [ixP,dif_neg hb] at hx
  refine wx ?_
  simp -implicitDefEqProofs -dsimp [hb]
  refine hQ _ _ _ ?_
  simp -implicitDefEqProofs -dsimp []
  simpa using hx
theorem cont_L (H:List B) (fv:V) (p:Cl→Bool) (es:List Cl) (g:Bool) (hes:es.length≤1000000) (hH:∀bl∈H,rbB H.length bl) (hfv:rb H.length fv)
  (hp:∀m∈es,WCall Tryz.prog fv [encCl m] H fun r H'=>r = .bool (p m)∧H'=H):ConH Tryz.prog 183 [LCl g es,fv] H fun r H'=>r = .bool (es.any p)∧H'=H:=by
 have h0:=ixP_any p es 0
 rw [List.drop_zero] at h0
 have hc:=ix_L H fv p es g hes hH hfv hp
 refine conH_of_W tok Tryz.func183 rfl rfl ?_
 refine wx ?_
 simp -implicitDefEqProofs -dsimp [Tryz.f183,List.replicate]
 refine WCall.mono (K:=fun r H'=>r = .int .i64 (ixP p es 0)∧H'=H) hc ?_
 rintro r H' ⟨rfl,rfl⟩
 simp -implicitDefEqProofs -dsimp []
 rw [←h0]
theorem ix_I (H:List B) (fv:V) (p:Int→Bool) (es:List Int) (g:Bool) (hes:es.length≤1000000) (hH:∀bl∈H,rbB H.length bl) (hfv:rb H.length fv)
  (hp:∀m∈es,WCall Tryz.prog fv [V.int .i64 m] H fun r H'=>r = .bool (p m)∧H'=H):ConH Tryz.prog 156 [L1 g es,fv] H fun r H'=>r = .int .i64 (ixP p es 0)∧H'=H:=by
 refine conH_of_W tok Tryz.func156 rfl rfl ?_
 refine wx ?_
 simp -implicitDefEqProofs -dsimp [Tryz.f156,List.replicate,L1]
 refine lw_of (W_loopM 19 [4,5,8,9,10,11,12,13,14,15,16,17,18] (by simp [mB]<;>rfl) (σ:=Nat) (fun i=>ixP p es i=ixP p es 0) (fun i=>es.length - i) (fun i=>[(8,.int .i64 i)]) (fun _=>H) 0 rfl (by simp) rfl (by simp) ?_)
 intro i hx N Q hN hQ
 by_cases hb:i<es.length
 ·rw [ixP,dif_pos hb] at hx
  have hc:=hp es[i] (List.getElem_mem hb)
  cases hq:p es[i]
  ·rw [hq] at hc hx
   refine wx ?_
   simp -implicitDefEqProofs -dsimp [hb,encI]
   refine hc.mono ?_
   rintro r H' ⟨rfl,rfl⟩
   simp -implicitDefEqProofs -dsimp [wrapS i (by omega)]
   refine hN (i+1) _ _ (by simpa using hx) (by omega) (by simp) ⟨[],by simp⟩ (by simp; exact hfv) hH
  ·rw [hq] at hc hx
   refine wx ?_
   simp -implicitDefEqProofs -dsimp [hb,encI]
   refine hc.mono ?_
   rintro r H' ⟨rfl,rfl⟩
   simp -implicitDefEqProofs -dsimp []
   refine hQ _ _ _ ?_
   simp -implicitDefEqProofs -dsimp []
   simpa using hx
 ·rw [ixP,dif_neg hb] at hx
  refine wx ?_
  simp -implicitDefEqProofs -dsimp [hb]
  refine hQ _ _ _ ?_
  simp -implicitDefEqProofs -dsimp []
  simpa using hx
theorem cont_I (H:List B) (fv:V) (p:Int→Bool) (es:List Int) (g:Bool) (hes:es.length≤1000000) (hH:∀bl∈H,rbB H.length bl) (hfv:rb H.length fv)
  (hp:∀m∈es,WCall Tryz.prog fv [V.int .i64 m] H fun r H'=>r = .bool (p m)∧H'=H):ConH Tryz.prog 100 [L1 g es,fv] H fun r H'=>r = .bool (es.any p)∧H'=H:=by
 have h0:=ixP_any p es 0
 rw [List.drop_zero] at h0
 have hc:=ix_I H fv p es g hes hH hfv hp
 refine conH_of_W tok Tryz.func100 rfl rfl ?_
 refine wx ?_
 simp -implicitDefEqProofs -dsimp [Tryz.f100,List.replicate]
 refine WCall.mono (K:=fun r H'=>r = .int .i64 (ixP p es 0)∧H'=H) hc ?_
 rintro r H' ⟨rfl,rfl⟩
 simp -implicitDefEqProofs -dsimp []
 rw [←h0]
theorem ix_R (H:List B) (fv:V) (p:Rw→Bool) (es:List Rw) (g:Bool) (hes:es.length≤1000000) (hH:∀bl∈H,rbB H.length bl) (hfv:rb H.length fv)
  (hp:∀m∈es,WCall Tryz.prog fv [encRw m] H fun r H'=>r = .bool (p m)∧H'=H):ConH Tryz.prog 96 [LR g es,fv] H fun r H'=>r = .int .i64 (ixP p es 0)∧H'=H:=by
 refine conH_of_W tok Tryz.func96 rfl rfl ?_
 refine wx ?_
 simp -implicitDefEqProofs -dsimp [Tryz.f96,List.replicate,LR]
 refine lw_of (W_loopM 19 [4,5,8,9,10,11,12,13,14,15,16,17,18] (by simp [mB]<;>rfl) (σ:=Nat) (fun i=>ixP p es i=ixP p es 0) (fun i=>es.length - i) (fun i=>[(8,.int .i64 i)]) (fun _=>H) 0 rfl (by simp) rfl (by simp) ?_)
 intro i hx N Q hN hQ
 by_cases hb:i<es.length
 ·rw [ixP,dif_pos hb] at hx
  have hc:=hp es[i] (List.getElem_mem hb)
  cases hq:p es[i]
  ·rw [hq] at hc hx
   refine wx ?_
   simp -implicitDefEqProofs -dsimp [hb]
   refine hc.mono ?_
   rintro r H' ⟨rfl,rfl⟩
   simp -implicitDefEqProofs -dsimp [wrapS i (by omega)]
   refine hN (i+1) _ _ (by simpa using hx) (by omega) (by simp) ⟨[],by simp⟩ (by simp; exact hfv) hH
  ·rw [hq] at hc hx
   refine wx ?_
   simp -implicitDefEqProofs -dsimp [hb]
   refine hc.mono ?_
   rintro r H' ⟨rfl,rfl⟩
   simp -implicitDefEqProofs -dsimp []
   refine hQ _ _ _ ?_
   simp -implicitDefEqProofs -dsimp []
   simpa using hx
 ·rw [ixP,dif_neg hb] at hx
  refine wx ?_
  simp -implicitDefEqProofs -dsimp [hb]
  refine hQ _ _ _ ?_
  simp -implicitDefEqProofs -dsimp []
  simpa using hx
theorem cont_R (H:List B) (fv:V) (p:Rw→Bool) (es:List Rw) (g:Bool) (hes:es.length≤1000000) (hH:∀bl∈H,rbB H.length bl) (hfv:rb H.length fv)
  (hp:∀m∈es,WCall Tryz.prog fv [encRw m] H fun r H'=>r = .bool (p m)∧H'=H):ConH Tryz.prog 243 [LR g es,fv] H fun r H'=>r = .bool (es.any p)∧H'=H:=by
 have h0:=ixP_any p es 0
 rw [List.drop_zero] at h0
 have hc:=ix_R H fv p es g hes hH hfv hp
 refine conH_of_W tok Tryz.func243 rfl rfl ?_
 refine wx ?_
 simp -implicitDefEqProofs -dsimp [Tryz.f243,List.replicate]
 refine WCall.mono (K:=fun r H'=>r = .int .i64 (ixP p es 0)∧H'=H) hc ?_
 rintro r H' ⟨rfl,rfl⟩
 simp -implicitDefEqProofs -dsimp []
 rw [←h0]
theorem conH_cutE {P:Program} {f:FuncId} {args:List V} {H:List B} {σ:Type} {ok:σ→Prop} {rf:σ→V} {Hf:σ→List B} (h:ConH P f args H fun r H'=>∃x,ok x∧r=rf x∧∃G,H'=Hf x++G) (hl:∀x,ok x→H.length≤(Hf x).length) (hr:∀x,ok x→rb (Hf x).length (rf x)) (hb:∀x,ok x→∀bl∈Hf x,rbB (Hf x).length bl):ConH P f args H fun r H'=>∃x,ok x∧r=rf x∧H'=Hf x:=by
 refine ⟨h.1,fun s vals h1 h2 h3 h4=>(h.2 s vals h1 h2 h3 h4).mono fun e w' ⟨u,s',r,a,b,c,d,e1,x,k1,k2,G,k3⟩=>?_⟩
 subst k2
 exact ⟨u,s'.cut (Hf x),rf x,a,b,cut_good c k3 (hb x k1),cut_step c k3 (Step.refl _) s d (by rw [h1.1]; exact hl x k1),cut_rel k3 e1 (hr x k1),x,k1,rfl,rfl⟩
theorem term18 (n vars:Int) (t:Tm):ConP Tryz.prog 279 [.int .i64 n,.int .i64 vars,encTm t] fun r=>r = .bool (tmB n vars t):=by
 have cv:=valid01 t.x
 simp only [encV] at cv
 unfold tmB zeroV
 by_cases h0:t.v=0
 ·rw [if_pos h0]
  by_cases h1:t.a=0
  ·rw [decide_eq_true h1,Bool.true_and]
   refine conP_of_conH (conH_of_W tok Tryz.func279 rfl rfl ?_)
   refine wx ?_
   simp -implicitDefEqProofs -dsimp [Tryz.f279,List.replicate,encTm,h0,h1]
   refine (callP (cv) (by simp)).mono ?_
   rintro r H' ⟨rfl,rfl⟩
   simp -implicitDefEqProofs -dsimp []
  ·rw [decide_eq_false h1,Bool.false_and]
   refine conP_of_conH (conH_of_W tok Tryz.func279 rfl rfl ?_)
   refine wx ?_
   simp -implicitDefEqProofs -dsimp [Tryz.f279,List.replicate,encTm,h0,h1]
 ·rw [if_neg h0]
  by_cases h1:1≤t.v
  ·rw [decide_eq_true h1,Bool.true_and]
   by_cases h2:t.v≤vars
   ·rw [decide_eq_true h2,Bool.true_and]
    by_cases h3:0≤t.a
    ·rw [decide_eq_true h3,Bool.true_and]
     by_cases h4:t.a<n
     ·rw [decide_eq_true h4,Bool.true_and]
      refine conP_of_conH (conH_of_W tok Tryz.func279 rfl rfl ?_)
      refine wx ?_
      simp -implicitDefEqProofs -dsimp [Tryz.f279,List.replicate,encTm,h0,h1,h2,h3,h4,eqVl]
     ·rw [decide_eq_false h4,Bool.false_and]
      refine conP_of_conH (conH_of_W tok Tryz.func279 rfl rfl ?_)
      refine wx ?_
      simp -implicitDefEqProofs -dsimp [Tryz.f279,List.replicate,encTm,h0,h1,h2,h3,h4]
    ·rw [decide_eq_false h3,Bool.false_and]
     refine conP_of_conH (conH_of_W tok Tryz.func279 rfl rfl ?_)
     refine wx ?_
     simp -implicitDefEqProofs -dsimp [Tryz.f279,List.replicate,encTm,h0,h1,h2,h3]
   ·rw [decide_eq_false h2,Bool.false_and]
    refine conP_of_conH (conH_of_W tok Tryz.func279 rfl rfl ?_)
    refine wx ?_
    simp -implicitDefEqProofs -dsimp [Tryz.f279,List.replicate,encTm,h0,h1,h2]
  ·rw [decide_eq_false h1,Bool.false_and]
   refine conP_of_conH (conH_of_W tok Tryz.func279 rfl rfl ?_)
   refine wx ?_
   simp -implicitDefEqProofs -dsimp [Tryz.f279,List.replicate,encTm,h0,h1]
theorem termValid (n vars:Int) (t:Tm):ConP Tryz.prog 182 [.int .i64 n,.int .i64 vars,encTm t] fun r=>r = .bool (tmB n vars t):=by
 have cv:=validV_con t.x
 simp only [encV] at cv
 unfold tmB zeroV
 by_cases h0:t.v=0
 ·rw [if_pos h0]
  by_cases h1:t.a=0
  ·rw [decide_eq_true h1,Bool.true_and]
   refine conP_of_conH (conH_of_W tok Tryz.func182 rfl rfl ?_)
   refine wx ?_
   simp -implicitDefEqProofs -dsimp [Tryz.f182,List.replicate,encTm,h0,h1]
   refine (callP (cv) (by simp)).mono ?_
   rintro r H' ⟨rfl,rfl⟩
   simp -implicitDefEqProofs -dsimp []
  ·rw [decide_eq_false h1,Bool.false_and]
   refine conP_of_conH (conH_of_W tok Tryz.func182 rfl rfl ?_)
   refine wx ?_
   simp -implicitDefEqProofs -dsimp [Tryz.f182,List.replicate,encTm,h0,h1]
 ·rw [if_neg h0]
  by_cases h1:1≤t.v
  ·rw [decide_eq_true h1,Bool.true_and]
   have h1':0<t.v:=by omega
   by_cases h2:t.v≤vars
   ·rw [decide_eq_true h2,Bool.true_and]
    by_cases h3:0≤t.a
    ·rw [decide_eq_true h3,Bool.true_and]
     by_cases h4:t.a<n
     ·rw [decide_eq_true h4,Bool.true_and]
      refine conP_of_conH (conH_of_W tok Tryz.func182 rfl rfl ?_)
      refine wx ?_
      simp -implicitDefEqProofs -dsimp [Tryz.f182,List.replicate,encTm,h0,h1',h2,h3,h4,eqVl]
     ·rw [decide_eq_false h4,Bool.false_and]
      refine conP_of_conH (conH_of_W tok Tryz.func182 rfl rfl ?_)
      refine wx ?_
      simp -implicitDefEqProofs -dsimp [Tryz.f182,List.replicate,encTm,h0,h1',h2,h3,h4]
    ·rw [decide_eq_false h3,Bool.false_and]
     refine conP_of_conH (conH_of_W tok Tryz.func182 rfl rfl ?_)
     refine wx ?_
     simp -implicitDefEqProofs -dsimp [Tryz.f182,List.replicate,encTm,h0,h1',h2,h3]
   ·rw [decide_eq_false h2,Bool.false_and]
    refine conP_of_conH (conH_of_W tok Tryz.func182 rfl rfl ?_)
    refine wx ?_
    simp -implicitDefEqProofs -dsimp [Tryz.f182,List.replicate,encTm,h0,h1',h2]
  ·rw [decide_eq_false h1,Bool.false_and]
   refine conP_of_conH (conH_of_W tok Tryz.func182 rfl rfl ?_)
   refine wx ?_
   simp -implicitDefEqProofs -dsimp [Tryz.f182,List.replicate,encTm,h0,show ¬0<t.v by omega]
theorem conH_cutZ {P:Program} {f:FuncId} {args:List V} {H Hf:List B} {v:V} (h:ConH P f args H fun r H'=>r=v∧∃G,H'=Hf++G) (hr:rb Hf.length v) (hb:H.length≤Hf.length∧∀bl∈Hf,rbB Hf.length bl):ConH P f args H fun r H'=>r=v∧H'=Hf:=by
 refine (conH_cutE (σ:=Unit) (ok:=fun _=>True) (rf:=fun _=>v) (Hf:=fun _=>Hf) (h.mono fun r H' ⟨a,G,b⟩=>⟨(),trivial,a,G,b⟩) (fun _ _=>hb.1) (fun _ _=>hr) (fun _ _=>hb.2)).mono ?_
 rintro r H' ⟨_,_,a,b⟩
 exact ⟨a,b⟩
theorem valid18 (n:Int) (d:Dn) (f:Bool) (hl:d.atoms.length≤1000000):ConP Tryz.prog 261 [.int .i64 n,encDn f d] fun r=>r = .bool (dnB n d):=by
 unfold dnB
 by_cases h1:1≤d.vars
 ·rw [decide_eq_true h1,Bool.true_and]
  by_cases h2:d.vars≤3
  ·rw [decide_eq_true h2,Bool.true_and]
   by_cases h3:d.atoms.length≤20
   ·rw [decide_eq_true h3,Bool.true_and]
    obtain ⟨E,hE⟩:∃E,E=d.atoms.all (atB n d.vars):=⟨_,rfl⟩
    rw [←hE]
    refine conP_of_conH (conH_of_W tok Tryz.func261 rfl rfl ?_)
    refine wx ?_
    simp -implicitDefEqProofs -dsimp [Tryz.f261,List.replicate,encDn,LA,show ¬d.vars<1 by omega,show ¬3<d.vars by omega,show ¬(20:Int)<d.atoms.length by omega]
    refine lw_of (W_loopM 59 [4,5,6,21,22,23,24,25,26,27,28,29,30,31,32,33,34,35,36,37,38,39,40,41,42,43,44,45,46,47,48,49,50,51,52,53,54,55,56,57,58] (by simp [mB]<;>rfl) (σ:=Nat) (fun i=>(d.atoms.drop i).all (atB n d.vars)=E) (fun i=>d.atoms.length - i) (fun i=>[(5,.int .i64 i)]) (fun _=>[B.cells [.int .i64 d.vars,.lst 11 f (d.atoms.map encAt)]]) 0 (by rw [hE,List.drop_zero]) (by simp) (by simp) (by simp) ?_)
    intro i hx N Q hN hQ
    by_cases hb:i<d.atoms.length
    ·rw [List.drop_eq_getElem_cons hb,List.all_cons] at hx
     obtain ⟨a,ha⟩:∃a,a=d.atoms[i]:=⟨_,rfl⟩
     rw [←ha] at hx
     have c1:=term18 n d.vars a.l
     have c2:=term18 n d.vars a.r
     simp only [encTm] at c1 c2
     by_cases o1:a.op<1
     ·rw [show atB n d.vars a=false by unfold atB; rw [decide_eq_false (by omega)]; rfl,Bool.false_and] at hx
      refine wx ?_
      simp -implicitDefEqProofs -dsimp [hb,ha.symm,encAt,o1]
      refine hQ _ _ _ ?_
      simp -implicitDefEqProofs -dsimp []
      rw [←hx]<;>simp
     ·by_cases o2:4<a.op
      ·rw [show atB n d.vars a=false by unfold atB; rw [decide_eq_true (by omega),decide_eq_false (by omega)]; rfl,Bool.false_and] at hx
       refine wx ?_
       simp -implicitDefEqProofs -dsimp [hb,ha.symm,encAt,o1,o2]
       refine hQ _ _ _ ?_
       simp -implicitDefEqProofs -dsimp []
       rw [←hx]<;>simp
      ·have hat:atB n d.vars a=(tmB n d.vars a.l&&tmB n d.vars a.r):=by unfold atB; rw [decide_eq_true (by omega),decide_eq_true (by omega)]; rfl
       rw [hat] at hx
       cases q1:tmB n d.vars a.l with
       | false =>
        rw [q1] at c1 hx
        refine wx ?_
        simp -implicitDefEqProofs -dsimp [hb,ha.symm,encAt,o1,o2]
        refine (callP (c1) (by simp)).mono ?_
        rintro r H' ⟨rfl,rfl⟩
        simp -implicitDefEqProofs -dsimp []
        refine hQ _ _ _ ?_
        simp -implicitDefEqProofs -dsimp []
        rw [←hx]<;>simp
       | true =>
        rw [q1] at c1 hx
        cases q2:tmB n d.vars a.r with
        | false =>
         rw [q2] at c2 hx
         refine wx ?_
         simp -implicitDefEqProofs -dsimp [hb,ha.symm,encAt,o1,o2]
         refine (callP (c1) (by simp)).mono ?_
         rintro r H' ⟨rfl,rfl⟩
         simp -implicitDefEqProofs -dsimp []
         refine (callP (c2) (by simp)).mono ?_
         rintro r H' ⟨rfl,rfl⟩
         simp -implicitDefEqProofs -dsimp []
         refine hQ _ _ _ ?_
         simp -implicitDefEqProofs -dsimp []
         rw [←hx]<;>simp
        | true =>
         rw [q2] at c2 hx
         refine wx ?_
         simp -implicitDefEqProofs -dsimp [hb,ha.symm,encAt,o1,o2]
         refine (callP (c1) (by simp)).mono ?_
         rintro r H' ⟨rfl,rfl⟩
         simp -implicitDefEqProofs -dsimp []
         refine (callP (c2) (by simp)).mono ?_
         rintro r H' ⟨rfl,rfl⟩
         simp -implicitDefEqProofs -dsimp [wrapS i (by omega)]
         refine hN (i+1) _ _ hx (by omega) (by simp) ⟨_,rfl⟩ (by simp) (by simp)
    ·rw [List.drop_of_length_le (by omega)] at hx
     refine wx ?_
     simp -implicitDefEqProofs -dsimp [hb]
     refine hQ _ _ _ ?_
     simp -implicitDefEqProofs -dsimp []
     simpa using hx
   ·rw [decide_eq_false h3,Bool.false_and]
    refine conP_of_conH (conH_of_W tok Tryz.func261 rfl rfl ?_)
    refine wx ?_
    simp -implicitDefEqProofs -dsimp [Tryz.f261,List.replicate,encDn,LA,show ¬d.vars<1 by omega,show ¬3<d.vars by omega,show (20:Int)<d.atoms.length by omega]
  ·rw [decide_eq_false h2,Bool.false_and]
   refine conP_of_conH (conH_of_W tok Tryz.func261 rfl rfl ?_)
   refine wx ?_
   simp -implicitDefEqProofs -dsimp [Tryz.f261,List.replicate,encDn,LA,show ¬d.vars<1 by omega,show 3<d.vars by omega]
 ·rw [decide_eq_false h1,Bool.false_and]
  refine conP_of_conH (conH_of_W tok Tryz.func261 rfl rfl ?_)
  refine wx ?_
  simp -implicitDefEqProofs -dsimp [Tryz.f261,List.replicate,encDn,LA,show d.vars<1 by omega]
theorem atom_no (n:Int) (d:Dn) (f:Bool) (a:At):∀H:List B,H=[B.cells [.int .i64 n],B.cells [.int .i64 d.vars,LA f d.atoms]]→WCall Tryz.prog (.fn 181 [.ptr 0 0,.ptr 1 0]) [encAt a] H fun r H'=>r = .bool (!atB n d.vars a)∧H'=H:=by
 intro H hH
 have c1:=termValid n d.vars a.l
 have c2:=termValid n d.vars a.r
 simp only [encTm] at c1 c2
 simp only [WCall,List.cons_append,List.nil_append]
 refine conH_cutZ ?_ (by simp [rb,rb1]) (by subst hH; simp [LA])
 subst hH
 simp only [LA]
 by_cases o1:a.op<1
 ·rw [show atB n d.vars a=false by unfold atB; rw [decide_eq_false (by omega)]; rfl]
  refine conH_of_W tok Tryz.func181 rfl rfl ?_
  refine wx ?_
  simp -implicitDefEqProofs -dsimp [Tryz.f181,List.replicate,encAt,LA,o1]
 by_cases o2:4<a.op
 ·rw [show atB n d.vars a=false by unfold atB; rw [decide_eq_true (by omega),decide_eq_false (by omega)]; rfl]
  refine conH_of_W tok Tryz.func181 rfl rfl ?_
  refine wx ?_
  simp -implicitDefEqProofs -dsimp [Tryz.f181,List.replicate,encAt,LA,o1,o2]
 have hat:atB n d.vars a=(tmB n d.vars a.l&&tmB n d.vars a.r):=by unfold atB; rw [decide_eq_true (by omega),decide_eq_true (by omega)]; rfl
 rw [hat]
 cases q1:tmB n d.vars a.l with
 | false =>
  rw [q1] at c1
  refine conH_of_W tok Tryz.func181 rfl rfl ?_
  refine wx ?_
  simp -implicitDefEqProofs -dsimp [Tryz.f181,List.replicate,encAt,LA,o1,o2]
  refine (callP (c1) (by simp)).mono ?_
  rintro r H' ⟨rfl,rfl⟩
  simp -implicitDefEqProofs -dsimp []
 | true =>
  rw [q1] at c1
  refine conH_of_W tok Tryz.func181 rfl rfl ?_
  refine wx ?_
  simp -implicitDefEqProofs -dsimp [Tryz.f181,List.replicate,encAt,LA,o1,o2]
  refine (callP (c1) (by simp)).mono ?_
  rintro r H' ⟨rfl,rfl⟩
  simp -implicitDefEqProofs -dsimp []
  refine (callP (c2) (by simp)).mono ?_
  rintro r H' ⟨rfl,rfl⟩
  simp -implicitDefEqProofs -dsimp []
theorem any_notA {α:Type} (p:α→Bool) (l:List α):(!l.any fun a=>!p a)=l.all p:=by
 induction l with
 | nil=>rfl
 | cons a l ih=>rw [List.any_cons,List.all_cons,←ih]; cases p a<;>simp
theorem validD_u (n:Int) (d:Dn) (f:Bool) (hl:d.atoms.length≤1000000):ConP Tryz.prog 127 [.int .i64 n,encDn f d] fun r=>r = .bool (dnB n d):=by
 unfold dnB
 by_cases h1:1≤d.vars
 case neg =>
  rw [decide_eq_false h1,Bool.false_and]
  refine conP_of_conH (conH_of_W tok Tryz.func127 rfl rfl ?_)
  refine wx ?_
  simp -implicitDefEqProofs -dsimp [Tryz.f127,List.replicate,encDn,LA,show d.vars<1 by omega]
 rw [decide_eq_true h1,Bool.true_and]
 by_cases h2:d.vars≤3
 case neg =>
  rw [decide_eq_false h2,Bool.false_and]
  refine conP_of_conH (conH_of_W tok Tryz.func127 rfl rfl ?_)
  refine wx ?_
  simp -implicitDefEqProofs -dsimp [Tryz.f127,List.replicate,encDn,LA,show ¬d.vars<1 by omega,show 3<d.vars by omega]
 rw [decide_eq_true h2,Bool.true_and]
 by_cases h3:d.atoms.length≤20
 case neg =>
  rw [decide_eq_false h3,Bool.false_and]
  refine conP_of_conH (conH_of_W tok Tryz.func127 rfl rfl ?_)
  refine wx ?_
  simp -implicitDefEqProofs -dsimp [Tryz.f127,List.replicate,encDn,LA,show ¬d.vars<1 by omega,show ¬3<d.vars by omega,show (20:Int)<d.atoms.length by omega]
 rw [decide_eq_true h3,Bool.true_and,←any_notA]
 have hc:=cont_A [B.cells [.int .i64 n],B.cells [.int .i64 d.vars,LA f d.atoms]] (.fn 181 [.ptr 0 0,.ptr 1 0]) (fun a=>!atB n d.vars a) d.atoms f hl (by simp [LA]) (by simp) (fun m _=>atom_no n d f m _ rfl)
 simp only [LA] at hc
 refine conP_of_conH (conH_of_W tok Tryz.func127 rfl rfl ?_)
 refine wx ?_
 simp -implicitDefEqProofs -dsimp [Tryz.f127,List.replicate,encDn,LA,show ¬d.vars<1 by omega,show ¬3<d.vars by omega,show ¬(20:Int)<d.atoms.length by omega]
 refine WCall.mono (K:=fun r H'=>r = .bool (d.atoms.any fun a=>!atB n d.vars a)∧H'=[B.cells [.int .i64 n],B.cells [.int .i64 d.vars,.lst 11 f (d.atoms.map encAt)]]) hc ?_
 rintro r H' ⟨rfl,rfl⟩
 simp -implicitDefEqProofs -dsimp []
def TmOk (rs:List Rw) (t:Tm):Prop:=t.v=0∨∃(k a:Nat) (hk:k<rs.length),t.v=(k:Int)+1∧t.a=(a:Int)∧a<rs[k].vals.length
theorem tmV_at {rs:List Rw} {t:Tm} {k a:Nat} (hk:k<rs.length) (h1:t.v=(k:Int)+1) (h2:t.a=(a:Int)) (h3:a<rs[k].vals.length):tmV rs t=rs[k].vals[a]:=by
 unfold tmV
 rw [if_neg (by omega),h1,h2]
 have e1:((k:Int)+1 - 1).toNat=k:=by omega
 have e2:((a:Int)).toNat=a:=by omega
 rw [e1,e2]
 simp [hk,h3]
theorem wrapM (k:Nat) (h:k<9223372036854775806):IntKind.i64.wrap ((k:Int)+1 - 1)=(k:Int):=by rw [wrap64 (by omega) (by omega)]; omega
theorem of18 (t:Tm) (rs:List Rw) (f:Bool) (h:TmOk rs t) (hl:rs.length≤1000000):ConP Tryz.prog 280 [encTm t,LR f rs] fun r=>r=encV (tmV rs t):=by
 rcases h with h | ⟨k,a,hk,h1,h2,h3⟩
 ·have ht:tmV rs t=t.x:=by simp [tmV,h]
  rw [ht]
  refine conP_of_conH (conH_of_W tok Tryz.func280 rfl rfl ?_)
  refine wx ?_
  simp -implicitDefEqProofs -dsimp [Tryz.f280,List.replicate,encTm,h,encV]
 ·have ht:=tmV_at hk h1 h2 h3
  obtain ⟨r,hr⟩:∃r,r=rs[k]:=⟨_,rfl⟩
  simp only [←hr] at ht h3
  obtain ⟨v,hv⟩:∃v,v=r.vals[a]:=⟨_,rfl⟩
  rw [ht,←hv]
  refine conP_of_conH (conH_of_W tok Tryz.func280 rfl rfl ?_)
  refine wx ?_
  simp -implicitDefEqProofs -dsimp [Tryz.f280,List.replicate,encTm,LR,LV,encRw,encV,h1,h2,show ¬(k:Int)+1=0 by omega,hk,hr.symm,h3,hv.symm,wrapM k (by omega),wrapN k (by omega)]
  refine lw_of (W_drawT tok mixed [11] [] [] (by kernel_rfl) fun C K hC hK=>?_)
  simp -implicitDefEqProofs [encTm,LR,LV,encRw,encV,h1,h2,hk,hr.symm,h3,hv.symm,wrapM k (by omega),wrapN k (by omega)]
  refine hK _ _ ?_
  simp -implicitDefEqProofs -dsimp []
  rfl
theorem get_u (t:Tm) (rs:List Rw) (f:Bool) (h:TmOk rs t) (hl:rs.length≤1000000):ConP Tryz.prog 271 [LR f rs,encTm t] fun r=>r=encV (tmV rs t):=by
 rcases h with h | ⟨k,a,hk,h1,h2,h3⟩
 ·have ht:tmV rs t=t.x:=by simp [tmV,h]
  rw [ht]
  refine conP_of_conH (conH_of_W tok Tryz.func271 rfl rfl ?_)
  refine wx ?_
  simp -implicitDefEqProofs -dsimp [Tryz.f271,List.replicate,encTm,h,encV]
 ·have ht:=tmV_at hk h1 h2 h3
  obtain ⟨r,hr⟩:∃r,r=rs[k]:=⟨_,rfl⟩
  simp only [←hr] at ht h3
  obtain ⟨v,hv⟩:∃v,v=r.vals[a]:=⟨_,rfl⟩
  rw [ht,←hv]
  refine conP_of_conH (conH_of_W tok Tryz.func271 rfl rfl ?_)
  refine wx ?_
  simp -implicitDefEqProofs -dsimp [Tryz.f271,List.replicate,encTm,LR,LV,encRw,encV,h1,h2,show ¬(k:Int)+1=0 by omega,hk,hr.symm,h3,hv.symm,wrapM k (by omega),wrapN k (by omega)]
  refine lw_of (W_drawT tok mixed [11] [] [] (by kernel_rfl) fun C K hC hK=>?_)
  simp -implicitDefEqProofs [encTm,LR,LV,encRw,encV,h1,h2,hk,hr.symm,h3,hv.symm,wrapM k (by omega),wrapN k (by omega)]
  refine hK _ _ ?_
  simp -implicitDefEqProofs -dsimp []
  rfl
structure AtOk (rs:List Rw) (a:At):Prop where
 l:TmOk rs a.l
 r:TmOk rs a.r
 lo:1≤a.op
 hi:a.op≤4
 sz:(tmV rs a.l).s.size≤maxLen
theorem sat18 (a:At) (rs:List Rw) (f:Bool) (h:AtOk rs a) (hl:rs.length≤1000000):ConP Tryz.prog 262 [encAt a,LR f rs] fun r=>r = .bool (atS rs a):=by
 have c1:=of18 a.l rs f h.l hl
 have c2:=of18 a.r rs f h.r hl
 have c3:=compare01 (tmV rs a.l) (tmV rs a.r) h.sz
 simp only [encTm,encV] at c1 c2 c3
 have h1:=h.lo
 have h2:=h.hi
 obtain ⟨q,hq⟩:∃q,q=cmpV (tmV rs a.l) (tmV rs a.r):=⟨_,rfl⟩
 unfold atS
 rw [←hq] at c3 ⊢
 by_cases e1:a.op=1
 ·rw [if_pos e1]
  refine conP_of_conH (conH_of_W tok Tryz.func262 rfl rfl ?_)
  refine wx ?_
  simp -implicitDefEqProofs -dsimp [Tryz.f262,List.replicate,encAt,e1]
  refine .inr ⟨stop_of (by kernel_rfl),?_⟩
  refine cy_of _ (callP (c1) (by simp)) ?_
  simp -implicitDefEqProofs -dsimp []
  refine cy_of _ (callP (c2) (by simp)) ?_
  simp -implicitDefEqProofs -dsimp []
  refine cy_of _ (callP (c3) (by simp)) ?_
  simp -implicitDefEqProofs -dsimp []
  try rfl
 rw [if_neg e1]
 by_cases e2:a.op=2
 ·rw [if_pos e2]
  refine conP_of_conH (conH_of_W tok Tryz.func262 rfl rfl ?_)
  refine wx ?_
  simp -implicitDefEqProofs -dsimp [Tryz.f262,List.replicate,encAt,e2]
  refine .inr ⟨stop_of (by kernel_rfl),?_⟩
  refine cy_of _ (callP (c1) (by simp)) ?_
  simp -implicitDefEqProofs -dsimp []
  refine cy_of _ (callP (c2) (by simp)) ?_
  simp -implicitDefEqProofs -dsimp []
  refine cy_of _ (callP (c3) (by simp)) ?_
  simp -implicitDefEqProofs -dsimp []
  try rfl
 rw [if_neg e2]
 by_cases e3:a.op=3
 ·rw [if_pos e3]
  refine conP_of_conH (conH_of_W tok Tryz.func262 rfl rfl ?_)
  refine wx ?_
  simp -implicitDefEqProofs -dsimp [Tryz.f262,List.replicate,encAt,e3]
  refine .inr ⟨stop_of (by kernel_rfl),?_⟩
  refine cy_of _ (callP (c1) (by simp)) ?_
  simp -implicitDefEqProofs -dsimp []
  refine cy_of _ (callP (c2) (by simp)) ?_
  simp -implicitDefEqProofs -dsimp []
  refine cy_of _ (callP (c3) (by simp)) ?_
  simp -implicitDefEqProofs -dsimp []
 rw [if_neg e3]
 refine conP_of_conH (conH_of_W tok Tryz.func262 rfl rfl ?_)
 refine wx ?_
 simp -implicitDefEqProofs -dsimp [Tryz.f262,List.replicate,encAt,e1,e2,e3]
 refine .inr ⟨stop_of (by kernel_rfl),?_⟩
 refine cy_of _ (callP (c1) (by simp)) ?_
 simp -implicitDefEqProofs -dsimp [e1,e2,e3]
 refine cy_of _ (callP (c2) (by simp)) ?_
 simp -implicitDefEqProofs -dsimp [e1,e2,e3]
 refine cy_of _ (callP (c3) (by simp)) ?_
 simp -implicitDefEqProofs -dsimp [e1,e2,e3]
theorem all18 (d:Dn) (rs:List Rw) (f g:Bool) (h:∀a∈d.atoms,AtOk rs a) (hl:rs.length≤1000000) (ha:d.atoms.length≤1000000):ConP Tryz.prog 211 [encDn f d,LR g rs] fun r=>r = .bool (allS d rs):=by
 obtain ⟨E,hE⟩:∃E,E=allS d rs:=⟨_,rfl⟩
 rw [←hE]
 unfold allS at hE
 refine conP_of_conH (conH_of_W tok Tryz.func211 rfl rfl ?_)
 refine wx ?_
 simp -implicitDefEqProofs -dsimp [Tryz.f211,List.replicate,encDn,LA,LR]
 refine lw_of (W_loopM 21 [4,5,6,7,8,9,10,11,12,13,14,15,16,17,18,19,20] (by simp [mB]<;>rfl) (σ:=Nat) (fun i=>(d.atoms.drop i).all (atS rs)=E) (fun i=>d.atoms.length - i) (fun i=>[(5,.int .i64 i)]) (fun _=>[B.cells [.int .i64 d.vars,.lst 11 f (d.atoms.map encAt)]]) 0 (by rw [hE,List.drop_zero]) (by simp) (by simp) (by simp) ?_)
 intro i hx N Q hN hQ
 by_cases hb:i<d.atoms.length
 ·rw [List.drop_eq_getElem_cons hb,List.all_cons] at hx
  have hk:=h _ (List.getElem_mem hb)
  obtain ⟨a,hae⟩:∃a,a=d.atoms[i]:=⟨_,rfl⟩
  rw [←hae] at hx hk
  have c1:=sat18 a rs g hk hl
  simp only [encAt,LR] at c1
  cases q:atS rs a with
  | false =>
   rw [q] at c1 hx
   refine wx ?_
   simp -implicitDefEqProofs -dsimp [hb,hae.symm,encAt]
   refine (callP (c1) (by simp)).mono ?_
   rintro r H' ⟨rfl,rfl⟩
   simp -implicitDefEqProofs -dsimp []
   refine hQ _ _ _ ?_
   simp -implicitDefEqProofs -dsimp []
   simpa using hx
  | true =>
   rw [q] at c1 hx
   refine wx ?_
   simp -implicitDefEqProofs -dsimp [hb,hae.symm,encAt]
   refine (callP (c1) (by simp)).mono ?_
   rintro r H' ⟨rfl,rfl⟩
   simp -implicitDefEqProofs -dsimp [wrapS i (by omega)]
   refine hN (i+1) _ _ (by simpa using hx) (by omega) (by simp) ⟨_,rfl⟩ (by simp) (by simp)
 ·rw [List.drop_of_length_le (by omega)] at hx
  refine wx ?_
  simp -implicitDefEqProofs -dsimp [hb]
  refine hQ _ _ _ ?_
  simp -implicitDefEqProofs -dsimp []
  simpa using hx
theorem inB_no1 {n a:Int} (h:¬0≤a):inB n a=false:=by simp [inB,h]
theorem inB_no2 {n a:Int} (h:¬a<n):inB n a=false:=by simp [inB,h]
theorem inB_yes {n a:Int} (h:0≤a) (h2:a<n):inB n a=true:=by simp [inB,h,h2]
theorem list17 (n:Int) (l:List Int) (f:Bool) (hl:l.length≤1000000):ConP Tryz.prog 278 [.int .i64 n,L1 f l] fun r=>r = .bool (olB n l):=by
 obtain ⟨E,hE⟩:∃E,E=l.all (inB n):=⟨_,rfl⟩
 unfold olB
 rw [←hE]
 refine conP_of_conH (conH_of_W tok Tryz.func278 rfl rfl ?_)
 refine wx ?_
 simp -implicitDefEqProofs -dsimp [Tryz.f278,List.replicate,L1]
 refine lw_of (W_loopM 25 [4,5,6,7,8,9,10,11,12,13,14,15,16,17,18,19,20,21,22,23,24] (by simp [mB]<;>rfl) (σ:=Nat) (fun i=>(l.drop i).all (inB n)=E) (fun i=>l.length - i) (fun i=>[(5,.int .i64 i)]) (fun _=>[]) 0 (by rw [hE,List.drop_zero]) (by simp) (by simp) (by simp) ?_)
 intro i hx N Q hN hQ
 by_cases hb:i<l.length
 ·rw [List.drop_eq_getElem_cons hb,List.all_cons] at hx
  obtain ⟨a,ha⟩:∃a,a=l[i]:=⟨_,rfl⟩
  rw [←ha] at hx
  by_cases h1:0≤a
  ·by_cases h2:a<n
   ·rw [inB_yes h1 h2] at hx
    refine wx ?_
    simp -implicitDefEqProofs -dsimp [hb,ha.symm,encI,show ¬a<0 by omega,show ¬n≤a by omega,wrapS i (by omega)]
    refine hN (i+1) _ _ (by simpa using hx) (by omega) (by simp) ⟨_,rfl⟩ (by simp [encI]) (by simp)
   ·rw [inB_no2 h2,Bool.false_and] at hx
    refine wx ?_
    simp -implicitDefEqProofs -dsimp [hb,ha.symm,encI,show ¬a<0 by omega,show n≤a by omega]
    refine hQ _ _ _ ?_
    simp -implicitDefEqProofs -dsimp []
    rw [←hx]; simp
  ·rw [inB_no1 h1,Bool.false_and] at hx
   refine wx ?_
   simp -implicitDefEqProofs -dsimp [hb,ha.symm,encI,show a<0 by omega]
   refine hQ _ _ _ ?_
   simp -implicitDefEqProofs -dsimp []
   rw [←hx]; simp
 ·rw [List.drop_of_length_le (by omega),List.all_nil] at hx
  subst hx
  by_cases h8:l.length≤8
  ·refine wx ?_
   simp -implicitDefEqProofs -dsimp [hb]
   refine hQ _ _ _ ?_
   simp -implicitDefEqProofs -dsimp [show (l.length:Int)≤8 by omega]
   simp [h8]
  ·refine wx ?_
   simp -implicitDefEqProofs -dsimp [hb]
   refine hQ _ _ _ ?_
   simp -implicitDefEqProofs -dsimp [show ¬(l.length:Int)≤8 by omega]
   omega
theorem valid17 (n:Int) (d:Od) (f g:Bool) (hl:d.l.length≤1000000) (hr:d.r.length≤1000000):ConP Tryz.prog 259 [.int .i64 n,encOd f g d] fun r=>r = .bool (odB n d):=by
 have c1:=list17 n d.l f hl
 have c2:=list17 n d.r g hr
 unfold odB
 simp only [L1] at c1 c2
 cases h:olB n d.l with
 | false =>
  rw [h] at c1
  refine conP_of_conH (conH_of_W tok Tryz.func259 rfl rfl ?_)
  refine wx ?_
  simp -implicitDefEqProofs -dsimp [Tryz.f259,List.replicate,encOd,L1]
  refine (callP (c1) (by simp)).mono ?_
  rintro r H' ⟨rfl,rfl⟩
  simp -implicitDefEqProofs -dsimp []
 | true =>
  rw [h] at c1
  refine conP_of_conH (conH_of_W tok Tryz.func259 rfl rfl ?_)
  refine wx ?_
  simp -implicitDefEqProofs -dsimp [Tryz.f259,List.replicate,encOd,L1]
  refine (callP (c1) (by simp)).mono ?_
  rintro r H' ⟨rfl,rfl⟩
  simp -implicitDefEqProofs -dsimp []
  refine (callP (c2) (by simp)).mono ?_
  rintro r H' ⟨rfl,rfl⟩
  simp -implicitDefEqProofs -dsimp []
theorem list1_u (n:Int) (a:Int):∀H:List B,H=[B.cells [.int .i64 n]]→WCall Tryz.prog (.fn 239 [.ptr 0 0]) [.int .i64 a] H fun r H'=>r = .bool (!inB n a)∧H'=H:=by
 intro H hH
 subst hH
 simp only [WCall,List.cons_append,List.nil_append]
 by_cases h1:0≤a
 ·by_cases h2:a<n
  ·rw [inB_yes h1 h2]
   refine conH_of_W tok Tryz.func239 rfl rfl ?_
   refine wx ?_
   simp -implicitDefEqProofs -dsimp [Tryz.f239,List.replicate,show ¬a<0 by omega,show ¬n≤a by omega]
  ·rw [inB_no2 h2]
   refine conH_of_W tok Tryz.func239 rfl rfl ?_
   refine wx ?_
   simp -implicitDefEqProofs -dsimp [Tryz.f239,List.replicate,show ¬a<0 by omega,show n≤a by omega]
 ·rw [inB_no1 h1]
  refine conH_of_W tok Tryz.func239 rfl rfl ?_
  refine wx ?_
  simp -implicitDefEqProofs -dsimp [Tryz.f239,List.replicate,show a<0 by omega]
theorem list_u (n:Int) (l:List Int) (f:Bool) (hl:l.length≤1000000):ConP Tryz.prog 185 [.int .i64 n,L1 f l] fun r=>r = .bool (olB n l):=by
 unfold olB
 rw [←any_notA]
 by_cases h8:l.length≤8
 ·have hc:=cont_I [B.cells [.int .i64 n]] (.fn 239 [.ptr 0 0]) (fun a=>!inB n a) l f hl (by simp) (by simp) (fun m _=>list1_u n m _ rfl)
  simp only [L1] at hc
  rw [decide_eq_true h8,Bool.true_and]
  refine conP_of_conH (conH_of_W tok Tryz.func185 rfl rfl ?_)
  refine wx ?_
  simp -implicitDefEqProofs -dsimp [Tryz.f185,List.replicate,L1,show (l.length:Int)≤8 by omega]
  refine WCall.mono (K:=fun r H'=>r = .bool (l.any fun a=>!inB n a)∧H'=[B.cells [.int .i64 n]]) hc ?_
  rintro r H' ⟨rfl,rfl⟩
  simp -implicitDefEqProofs -dsimp []
 ·rw [decide_eq_false h8,Bool.false_and]
  refine conP_of_conH (conH_of_W tok Tryz.func185 rfl rfl ?_)
  refine wx ?_
  simp -implicitDefEqProofs -dsimp [Tryz.f185,List.replicate,L1,show ¬(l.length:Int)≤8 by omega]
theorem validO_u (n:Int) (d:Od) (f g:Bool) (hl:d.l.length≤1000000) (hr:d.r.length≤1000000):ConP Tryz.prog 129 [.int .i64 n,encOd f g d] fun r=>r = .bool (odB n d):=by
 have c1:=list_u n d.l f hl
 have c2:=list_u n d.r g hr
 unfold odB
 simp only [L1] at c1 c2
 cases h:olB n d.l with
 | false =>
  rw [h] at c1
  refine conP_of_conH (conH_of_W tok Tryz.func129 rfl rfl ?_)
  refine wx ?_
  simp -implicitDefEqProofs -dsimp [Tryz.f129,List.replicate,encOd,L1]
  refine (callP (c1) (by simp)).mono ?_
  rintro r H' ⟨rfl,rfl⟩
  simp -implicitDefEqProofs -dsimp []
 | true =>
  rw [h] at c1
  refine conP_of_conH (conH_of_W tok Tryz.func129 rfl rfl ?_)
  refine wx ?_
  simp -implicitDefEqProofs -dsimp [Tryz.f129,List.replicate,encOd,L1]
  refine (callP (c1) (by simp)).mono ?_
  rintro r H' ⟨rfl,rfl⟩
  simp -implicitDefEqProofs -dsimp []
  refine (callP (c2) (by simp)).mono ?_
  rintro r H' ⟨rfl,rfl⟩
  simp -implicitDefEqProofs -dsimp []
def AtsOk (n:Nat) (l:List Int):Prop:=∀a∈l,0≤a∧a<n
theorem ol_ats {n:Nat} {l:List Int} (h:olB n l=true):AtsOk n l:=fun a ha=>by
 unfold olB at h
 rw [Bool.and_eq_true,List.all_eq_true] at h
 have:=h.2 a ha
 simpa [inB] using this
theorem vAt_nat {vs:List Vl} {k:Nat} (h:k<vs.length):vAt vs ((k:Nat):Int).toNat=vs[k]:=by rw [Int.toNat_natCast]; exact vAt_in h
theorem cmp17 (a b:Rw) (l:List Int) (f:Bool) (n:Nat) (ha:a.vals.length=n) (hb:b.vals.length=n) (hl:l.length≤1000000) (ho:AtsOk n l) (hs:∀v∈a.vals,v.s.size≤maxLen):ConP Tryz.prog 260 [encRw a,encRw b,L1 f l] fun r=>r = .int .i64 (cmpO a b l):=by
 obtain ⟨E,hE⟩:∃E,E=cmpO a b l:=⟨_,rfl⟩
 rw [←hE]
 refine conP_of_conH (conH_of_W tok Tryz.func260 rfl rfl ?_)
 refine wx ?_
 simp -implicitDefEqProofs -dsimp [Tryz.f260,List.replicate,L1,encRw,LV]
 refine lw_of (W_loopM 35 [6,7,8,9,10,11,12,13,14,15,16,17,18,19,20,21,22,23,24,25,26,27,28,29,30,31,32,33,34] (by simp [mB]<;>rfl) (σ:=Nat) (fun i=>cmpO a b (l.drop i)=E) (fun i=>l.length - i) (fun i=>[(7,.int .i64 i)]) (fun _=>[B.cells [.int .i64 a.id,.lst 3 false (a.vals.map encV)],B.cells [.int .i64 b.id,.lst 3 false (b.vals.map encV)]]) 0 (by rw [hE,List.drop_zero]) (by simp) (by simp) (by simp) ?_)
 intro i hx N Q hN hQ
 by_cases hi:i<l.length
 ·rw [List.drop_eq_getElem_cons hi,cmpO] at hx
  obtain ⟨h1,h2⟩:=ho _ (List.getElem_mem hi)
  obtain ⟨k,hk⟩:=Int.eq_ofNat_of_zero_le h1
  have hka:k<a.vals.length:=by omega
  have hkb:k<b.vals.length:=by omega
  rw [hk,vAt_nat hka,vAt_nat hkb] at hx
  have hsz:=hs _ (List.getElem_mem hka)
  obtain ⟨x,hxx⟩:∃x,x=a.vals[k]:=⟨_,rfl⟩
  obtain ⟨y,hyy⟩:∃y,y=b.vals[k]:=⟨_,rfl⟩
  rw [←hxx,←hyy] at hx
  rw [←hxx] at hsz
  have c:=compare01 x y hsz
  simp only [encV] at c
  by_cases h0:cmpV x y=0
  ·rw [if_pos h0] at hx
   rw [h0] at c
   refine wx ?_
   simp -implicitDefEqProofs -dsimp [hi,hk,encI,encV,hka,hkb,hxx.symm,hyy.symm]
   refine .inr ⟨stop_of (by kernel_rfl),?_⟩
   refine cy_of _ (callP (c) (by simp)) ?_
   simp -implicitDefEqProofs -dsimp [wrapS i (by omega)]
   refine hN (i+1) _ _ hx (by omega) (by simp) ⟨_,rfl⟩ (by simp [encI]) (by simp)
  ·rw [if_neg h0] at hx
   refine wx ?_
   simp -implicitDefEqProofs -dsimp [hi,hk,encI,encV,hka,hkb,hxx.symm,hyy.symm]
   refine .inr ⟨stop_of (by kernel_rfl),?_⟩
   refine cy_of _ (callP (c) (by simp)) ?_
   simp -implicitDefEqProofs -dsimp [h0]
   refine hQ _ _ _ ?_
   simp -implicitDefEqProofs -dsimp []
   rw [hx]
 ·rw [List.drop_of_length_le (by omega),cmpO] at hx
  refine wx ?_
  simp -implicitDefEqProofs -dsimp [hi]
  refine hQ _ _ _ ?_
  simp -implicitDefEqProofs -dsimp []
  rw [←hx]
theorem cmpO_u (a b:Rw) (l:List Int) (f:Bool) (n:Nat) (ha:a.vals.length=n) (hb:b.vals.length=n) (hl:l.length≤1000000) (ho:AtsOk n l):ConP Tryz.prog 241 [encRw a,encRw b,L1 f l] fun r=>r = .int .i64 (cmpO a b l):=by
 obtain ⟨E,hE⟩:∃E,E=cmpO a b l:=⟨_,rfl⟩
 rw [←hE]
 refine conP_of_conH (conH_of_W tok Tryz.func241 rfl rfl ?_)
 refine wx ?_
 simp -implicitDefEqProofs -dsimp [Tryz.f241,List.replicate,L1,encRw,LV]
 refine lw_of (W_loopM 31 [6,8,9,12,13,14,15,16,17,18,19,20,21,22,23,24,25,26,27,28,29,30] (by simp [mB]<;>rfl) (σ:=Nat) (fun i=>cmpO a b (l.drop i)=E) (fun i=>l.length - i) (fun i=>[(12,.int .i64 i)]) (fun _=>[B.cells [.int .i64 a.id,.lst 3 false (a.vals.map encV)],B.cells [.int .i64 b.id,.lst 3 false (b.vals.map encV)]]) 0 (by rw [hE,List.drop_zero]) (by simp) (by simp) (by simp) ?_)
 intro i hx N Q hN hQ
 by_cases hi:i<l.length
 ·rw [List.drop_eq_getElem_cons hi,cmpO] at hx
  obtain ⟨h1,h2⟩:=ho _ (List.getElem_mem hi)
  obtain ⟨k,hk⟩:=Int.eq_ofNat_of_zero_le h1
  have hka:k<a.vals.length:=by omega
  have hkb:k<b.vals.length:=by omega
  rw [hk,vAt_nat hka,vAt_nat hkb] at hx
  obtain ⟨x,hxx⟩:∃x,x=a.vals[k]:=⟨_,rfl⟩
  obtain ⟨y,hyy⟩:∃y,y=b.vals[k]:=⟨_,rfl⟩
  rw [←hxx,←hyy] at hx
  have c:=valueCompare x y
  simp only [encV] at c
  by_cases h0:cmpV x y=0
  ·rw [if_pos h0] at hx
   rw [h0] at c
   refine wx ?_
   simp -implicitDefEqProofs -dsimp [hi,hk,encI,encV,hka,hkb,hxx.symm,hyy.symm]
   refine .inr ⟨stop_of (by kernel_rfl),?_⟩
   refine cy_of _ (callP (c) (by simp)) ?_
   simp -implicitDefEqProofs -dsimp [wrapS i (by omega)]
   refine hN (i+1) _ _ hx (by omega) (by simp) ⟨_,rfl⟩ (by simp [encI]) (by simp)
  ·rw [if_neg h0] at hx
   refine wx ?_
   simp -implicitDefEqProofs -dsimp [hi,hk,encI,encV,hka,hkb,hxx.symm,hyy.symm]
   refine .inr ⟨stop_of (by kernel_rfl),?_⟩
   refine cy_of _ (callP (c) (by simp)) ?_
   simp -implicitDefEqProofs -dsimp [h0]
   refine hQ _ _ _ ?_
   simp -implicitDefEqProofs -dsimp []
   rw [hx]
 ·rw [List.drop_of_length_le (by omega),cmpO] at hx
  refine wx ?_
  simp -implicitDefEqProofs -dsimp [hi]
  refine hQ _ _ _ ?_
  simp -implicitDefEqProofs -dsimp []
  rw [←hx]
theorem wrapX {p q:Int} (hp : -1≤p∧p≤1) (hq : -1≤q∧q≤1):IntKind.i64.wrap (p*q)=p*q:=by
 have : -1≤p*q∧p*q≤1:=by
  obtain rfl | rfl | rfl:p = -1∨p=0∨p=1:=by omega
  ·omega
  ·omega
  ·omega
 exact wrap64 (by omega) (by omega)
theorem kind17 (a b:Rw) (d:Od) (f g:Bool) (n:Nat) (ha:a.vals.length=n) (hb:b.vals.length=n) (hl:d.l.length≤1000000) (hr:d.r.length≤1000000) (h1:AtsOk n d.l) (h2:AtsOk n d.r) (hs:∀v∈a.vals,v.s.size≤maxLen):ConP Tryz.prog 208 [encRw a,encRw b,encOd f g d] fun r=>r = .int .i64 (kindO d a b):=by
 have c1:=cmp17 a b d.l f n ha hb hl h1 hs
 have c2:=cmp17 a b d.r g n ha hb hr h2 hs
 have w:=wrapX (cmpO_rng a b d.l) (cmpO_rng a b d.r)
 unfold kindO
 obtain ⟨p,hp⟩:∃p,p=cmpO a b d.l:=⟨_,rfl⟩
 obtain ⟨q,hq⟩:∃q,q=cmpO a b d.r:=⟨_,rfl⟩
 rw [←hp] at c1 w ⊢
 rw [←hq] at c2 w ⊢
 simp only [L1,encRw,LV] at c1 c2
 by_cases h3:p=0
 ·by_cases h4:q=0
  ·rw [if_neg (by simp [h4]),if_neg (by rw [h3]; omega)]
   refine conP_of_conH (conH_of_W tok Tryz.func208 rfl rfl ?_)
   refine wx ?_
   simp -implicitDefEqProofs -dsimp [Tryz.f208,List.replicate,L1,encRw,LV,encOd]
   refine .inr ⟨stop_of (by kernel_rfl),?_⟩
   refine cy_of _ (callP (c1) (by simp)) ?_
   simp -implicitDefEqProofs -dsimp []
   refine cy_of _ (callP (c2) (by simp)) ?_
   simp -implicitDefEqProofs -dsimp [h3,h4,w,show IntKind.i64.wrap (0:Int)=0 from wrap64 (by omega) (by omega)]
  ·rw [if_pos ⟨h3,h4⟩]
   refine conP_of_conH (conH_of_W tok Tryz.func208 rfl rfl ?_)
   refine wx ?_
   simp -implicitDefEqProofs -dsimp [Tryz.f208,List.replicate,L1,encRw,LV,encOd]
   refine .inr ⟨stop_of (by kernel_rfl),?_⟩
   refine cy_of _ (callP (c1) (by simp)) ?_
   simp -implicitDefEqProofs -dsimp []
   refine cy_of _ (callP (c2) (by simp)) ?_
   simp -implicitDefEqProofs -dsimp [h3,h4]
 ·rw [if_neg (fun h=>h3 h.1)]
  by_cases h5:p*q<0
  ·rw [if_pos h5]
   refine conP_of_conH (conH_of_W tok Tryz.func208 rfl rfl ?_)
   refine wx ?_
   simp -implicitDefEqProofs -dsimp [Tryz.f208,List.replicate,L1,encRw,LV,encOd]
   refine .inr ⟨stop_of (by kernel_rfl),?_⟩
   refine cy_of _ (callP (c1) (by simp)) ?_
   simp -implicitDefEqProofs -dsimp []
   refine cy_of _ (callP (c2) (by simp)) ?_
   simp -implicitDefEqProofs -dsimp [h3,w,h5]
  ·rw [if_neg h5]
   refine conP_of_conH (conH_of_W tok Tryz.func208 rfl rfl ?_)
   refine wx ?_
   simp -implicitDefEqProofs -dsimp [Tryz.f208,List.replicate,L1,encRw,LV,encOd]
   refine .inr ⟨stop_of (by kernel_rfl),?_⟩
   refine cy_of _ (callP (c1) (by simp)) ?_
   simp -implicitDefEqProofs -dsimp []
   refine cy_of _ (callP (c2) (by simp)) ?_
   simp -implicitDefEqProofs -dsimp [h3,w,h5]
theorem kind_u (a b:Rw) (d:Od) (f g:Bool) (n:Nat) (ha:a.vals.length=n) (hb:b.vals.length=n) (hl:d.l.length≤1000000) (hr:d.r.length≤1000000) (h1:AtsOk n d.l) (h2:AtsOk n d.r):ConP Tryz.prog 192 [encRw a,encRw b,encOd f g d] fun r=>r = .int .i64 (kindO d a b):=by
 have c1:=cmpO_u a b d.l f n ha hb hl h1
 have c2:=cmpO_u a b d.r g n ha hb hr h2
 have w:=wrapX (cmpO_rng a b d.l) (cmpO_rng a b d.r)
 unfold kindO
 obtain ⟨p,hp⟩:∃p,p=cmpO a b d.l:=⟨_,rfl⟩
 obtain ⟨q,hq⟩:∃q,q=cmpO a b d.r:=⟨_,rfl⟩
 rw [←hp] at c1 w ⊢
 rw [←hq] at c2 w ⊢
 simp only [L1,encRw,LV] at c1 c2
 by_cases h3:p=0
 ·by_cases h4:q=0
  ·rw [if_neg (by simp [h4]),if_neg (by rw [h3]; omega)]
   refine conP_of_conH (conH_of_W tok Tryz.func192 rfl rfl ?_)
   refine wx ?_
   simp -implicitDefEqProofs -dsimp [Tryz.f192,List.replicate,L1,encRw,LV,encOd]
   refine .inr ⟨stop_of (by kernel_rfl),?_⟩
   refine cy_of _ (callP (c1) (by simp)) ?_
   simp -implicitDefEqProofs -dsimp []
   refine cy_of _ (callP (c2) (by simp)) ?_
   simp -implicitDefEqProofs -dsimp [h3,h4,w,show IntKind.i64.wrap (0:Int)=0 from wrap64 (by omega) (by omega)]
  ·rw [if_pos ⟨h3,h4⟩]
   refine conP_of_conH (conH_of_W tok Tryz.func192 rfl rfl ?_)
   refine wx ?_
   simp -implicitDefEqProofs -dsimp [Tryz.f192,List.replicate,L1,encRw,LV,encOd]
   refine .inr ⟨stop_of (by kernel_rfl),?_⟩
   refine cy_of _ (callP (c1) (by simp)) ?_
   simp -implicitDefEqProofs -dsimp []
   refine cy_of _ (callP (c2) (by simp)) ?_
   simp -implicitDefEqProofs -dsimp [h3,h4]
 ·rw [if_neg (fun h=>h3 h.1)]
  by_cases h5:p*q<0
  ·rw [if_pos h5]
   refine conP_of_conH (conH_of_W tok Tryz.func192 rfl rfl ?_)
   refine wx ?_
   simp -implicitDefEqProofs -dsimp [Tryz.f192,List.replicate,L1,encRw,LV,encOd]
   refine .inr ⟨stop_of (by kernel_rfl),?_⟩
   refine cy_of _ (callP (c1) (by simp)) ?_
   simp -implicitDefEqProofs -dsimp []
   refine cy_of _ (callP (c2) (by simp)) ?_
   simp -implicitDefEqProofs -dsimp [h3,w,h5]
  ·rw [if_neg h5]
   refine conP_of_conH (conH_of_W tok Tryz.func192 rfl rfl ?_)
   refine wx ?_
   simp -implicitDefEqProofs -dsimp [Tryz.f192,List.replicate,L1,encRw,LV,encOd]
   refine .inr ⟨stop_of (by kernel_rfl),?_⟩
   refine cy_of _ (callP (c1) (by simp)) ?_
   simp -implicitDefEqProofs -dsimp []
   refine cy_of _ (callP (c2) (by simp)) ?_
   simp -implicitDefEqProofs -dsimp [h3,w,h5]
theorem relL_le {s:AM.St} {z:Nat} {xs ys:List V} {fl:Bool} {u:Value} (h:Rel s (.lst z fl xs) u) (hl:xs.length=ys.length) (hz:∀y∈ys,y.cells.length=z∧∀c∈y.cells,c.one=true)
  (hle:∀(i:Nat) x y,xs[i]?=some x→ys[i]?=some y→∀(j:Nat) c,y.cells[j]?=some c→∃d,x.cells[j]?=some d∧lfB d c):Rel s (.lst z fl ys) u:=by
 cases h with
 | lst _ _ _ A cap b off u hcap hfull hA hz0 hcell hrel =>
  rw [hl]
  refine .lst z fl ys A cap b off u (by omega) (fun h=>by rw [←hl]; exact hfull h) (fun h=>hA (by omega)) hz (fun i y j c hy hc=>?_) (fun i y j c hy hc=>?_)
  ·have hx:xs[i]?=some (xs[i]'(by have:=getElem?_lt hy; omega)):=List.getElem?_eq_getElem _
   obtain ⟨d,hd,_⟩:=hle i _ y hx hy j c hc
   exact hcell i _ j d hx hd
  ·have hx:xs[i]?=some (xs[i]'(by have:=getElem?_lt hy; omega)):=List.getElem?_eq_getElem _
   obtain ⟨d,hd,h2⟩:=hle i _ y hx hy j c hc
   exact lf_rel (hrel i _ j d hx hd) h2
theorem conP_resL {P:Program} {f:FuncId} {args:List V} {K K':V→Prop} (h:ConP P f args K) (hk:∀s u r,K r→Rel s r u→∃r',Rel s r' u∧AM.Pure r'∧K' r'):ConP P f args K':=by
 refine ⟨h.1,fun F w vals hZ hF hsz hrel=>(h.2 F w vals hZ hF hsz hrel).mono fun e w' ⟨u,r,a1,a2,a3,a4,a5⟩=>?_⟩
 obtain ⟨r',b1,b2,b3⟩:=hk _ u r a5 a3
 exact ⟨u,r',a1,b2,b1,a4,b3⟩
def LT (g:Bool) (es:List (List Int)):V:=.lst 1 g (es.map (L1 true))
theorem LT_rb (n e:Nat) (es:List (List Int)):rbB n (.buf e 1 (es.map (L1 true)) false):=(rbB_buf1 (fun x hx=>by obtain ⟨y,_,rfl⟩:=List.mem_map.1 hx; exact ⟨by simp,rfl⟩)).2 trivial
theorem LF_rb (n e:Nat) (es:List (List Int)):rbB n (.buf e 1 (es.map (L1 false)) false):=(rbB_buf1 (fun x hx=>by obtain ⟨y,_,rfl⟩:=List.mem_map.1 hx; exact ⟨by simp,rfl⟩)).2 trivial
theorem rel_LT {s:AM.St} {g:Bool} {es:List (List Int)} {u:Value} (h:Rel s (LT g es) u):Rel s (LL g es) u:=by
 refine relL_le h (by simp) (fun y hy=>?_) (fun i x y hx hy j c hc=>?_)
 ·obtain ⟨z,_,rfl⟩:=List.mem_map.1 hy
  refine ⟨rfl,fun c hc=>?_⟩
  simp only [L1,V.cells,List.mem_cons,List.not_mem_nil,or_false] at hc
  subst hc; rfl
 ·rw [List.getElem?_map] at hx hy
  cases hz:es[i]? with
  | none=>rw [hz] at hx; cases hx
  | some z =>
   rw [hz] at hx hy
   simp only [Option.map_some,Option.some.injEq] at hx hy
   subst hx; subst hy
   match j with
   | 0 =>
    simp [L1,V.cells] at hc
    subst hc
    exact ⟨_,rfl,.inr (.inl ⟨1,z.map encI,rfl,rfl⟩)⟩
   | j+1=>simp [L1,V.cells] at hc
theorem rel_tup2 {s:AM.St} {a a' b:V} {u:Value} (h:Rel s (.tup [a,b]) u) (ha:∀x,Rel s a x→Rel s a' x):Rel s (.tup [a',b]) u:=by
 cases h with
 | tup _ us hl hr =>
  refine .tup _ us (by simpa using hl) (fun i v x hv hx=>?_)
  match i with
  | 0=>simp at hv; subst hv; exact ha _ (hr 0 a x rfl hx)
  | 1=>simp at hv; subst hv; exact hr 1 _ x rfl hx
  | i+2=>simp at hv
theorem conP_LT {P:Program} {f:FuncId} {args:List V} {es:List (List Int)} {e:Int} (h:ConP P f args fun r=>r = .tup [LT false es,.int .i64 e]):ConP P f args fun r=>r = .tup [LL false es,.int .i64 e] :=
 conP_resL h fun s u r hr hrel=>⟨_,rel_tup2 (hr▸hrel) fun x=>rel_LT,by simp [LL],rfl⟩
structure TbS (t:Tb):Prop where
 ok:TbOk t
 sz:∀r∈t.rows,∀v∈r.vals,v.s.size≤maxLen
 few:t.rows.length≤8
theorem pr_cons {P:Rw→Rw→Bool} {R:List Rw} {i:Nat} (h:i<R.length):prL P (R.drop i)=(((R.drop (i+1)).filter (P R[i])).map fun s=>[R[i].id,s.id])++prL P (R.drop (i+1)):=by
 rw [List.drop_eq_getElem_cons h,prL]
theorem in_cons {P:Rw→Rw→Bool} {R:List Rw} {r:Rw} {k:Nat} (h:k<R.length):(((R.drop k).filter (P r)).map fun s=>[r.id,s.id])=(if P r R[k]=true then [[r.id,R[k].id]] else [])++(((R.drop (k+1)).filter (P r)).map fun s=>[r.id,s.id]):=by
 rw [List.drop_eq_getElem_cons h]
 by_cases hp:P r R[k]=true
 ·rw [List.filter_cons_of_pos hp,if_pos hp]; rfl
 ·rw [List.filter_cons_of_neg hp,if_neg hp]; rfl
theorem viol17 (t:Tb) (d:Od) (f g f2 g2:Bool) (h:TbS t) (hl:d.l.length≤1000000) (hr:d.r.length≤1000000) (hv:validT t=0) (ho:odB t.attrs.length d=true):ConP Tryz.prog 145 [encTb f g t,encOd f2 g2 d] fun r=>r = .tup [LL false (prL (odP d) t.rows),.int .i64 0]:=by
 refine conP_LT ?_
 have ct:=tbC hv
 have c1:=valid03 t f g h.ok
 rw [hv] at c1
 have c2:=valid17 t.attrs.length d f2 g2 hl hr
 rw [ho] at c2
 simp only [encTb,LR,LS,encOd,L1] at c1 c2
 have hol:AtsOk t.attrs.length d.l∧AtsOk t.attrs.length d.r:=by
  unfold odB at ho
  rw [Bool.and_eq_true] at ho
  exact ⟨ol_ats ho.1,ol_ats ho.2⟩
 obtain ⟨R,hR⟩:∃R,R=t.rows:=⟨_,rfl⟩
 obtain ⟨E,hE⟩:∃E,E=prL (odP d) R:=⟨_,rfl⟩
 have hR8:R.length≤8:=by rw [hR]; exact h.few
 have hE64:E.length≤64:=by rw [hE]; exact Nat.le_trans (prL_len R) (sq8 hR8)
 have hlen:∀r∈R,r.vals.length=t.attrs.length:=by rw [hR]; exact ct.len
 have hsz:∀r∈R,∀v∈r.vals,v.s.size≤maxLen:=by rw [hR]; exact h.sz
 have c3:@Exists Bool fun e=>(e=true∧True):=⟨true,rfl,trivial⟩
 clear c3
 have ca:ConP Tryz.prog 207 [encTb f g t,encOd f2 g2 d] fun r=>r = .int .i64 0:=by
  refine conP_of_conH (conH_of_W tok Tryz.func207 rfl rfl ?_)
  refine wx ?_
  simp -implicitDefEqProofs -dsimp [Tryz.f207,List.replicate,encTb,encOd,LR,LS,L1]
  refine (callP (c1) (by simp)).mono ?_
  rintro r H' ⟨rfl,rfl⟩
  simp -implicitDefEqProofs -dsimp []
  refine (callP (c2) (by simp)).mono ?_
  rintro r H' ⟨rfl,rfl⟩
  simp -implicitDefEqProofs -dsimp []
 simp only [encTb,LR,LS,encOd,L1] at ca
 rw [←hR] at ca ⊢
 rw [←hE]
 have hrb:∀o:List (List Int),∀bl∈[B.cells [.str t.name,.lst 1 f (t.attrs.map V.str),.lst 2 g (R.map encRw)],B.cells [.lst 1 f2 (d.l.map encI),.lst 1 g2 (d.r.map encI)],B.buf 34 1 (o.map (L1 true)) false],rbB 3 bl:=fun o bl hbl=>by
  simp only [List.mem_cons,List.not_mem_nil,or_false] at hbl
  rcases hbl with rfl | rfl | rfl
  ·intro c hc; simp at hc; rcases hc with rfl | rfl | rfl<;>simp [rb,rb1]
  ·intro c hc; simp at hc; rcases hc with rfl | rfl<;>simp [rb,rb1]
  ·exact LT_rb _ _ _
 refine conP_of_conH (conH_of_W (tok_flag tok (fun t=>t == 34)) Tryz.func145 rfl rfl ?_)
 refine W_x (tok_flag tok (fun t=>t == 34)) mixed ?_
 simp -implicitDefEqProofs -dsimp [Tryz.f145,List.replicate,encTb,encOd,LR,LS,hR.symm,L1,flagT]
 refine (callP (ca) (by simp)).mono ?_
 rintro r H' ⟨rfl,rfl⟩
 simp -implicitDefEqProofs -dsimp [L1,flagT]
 refine lw_of (W_own 34 1 [7] (by simp) (W_loopM 61 [7,8,9,16,17,18,19,20,21,22,23,24,25,26,27,28,29,30,31,32,33,34,35,36,37,38,39,40,41,42,43,44,45,46,47,48,49,50,51,52,53,54,55,56,57,58,59,60] (by simp [mB]<;>rfl) (σ:=Nat×List (List Int)) (fun p=>p.2++prL (odP d) (R.drop p.1)=E) (fun p=>R.length - p.1) (fun p=>[(8,.int .i64 p.1),(7,.buf 2 0 p.2.length p.2.length)]) (fun p=>[B.cells [.str t.name,.lst 1 f (t.attrs.map V.str),.lst 2 g (R.map encRw)],B.cells [.lst 1 f2 (d.l.map encI),.lst 1 g2 (d.r.map encI)],B.buf 34 1 (p.2.map (L1 true)) false]) (0,[]) (by rw [hE]; rfl) (by simp) (by simp) (by simp) ?_))
 rintro ⟨i,out⟩ hx N Q hN hQ
 simp only at hx
 by_cases hb:i<R.length
 ·rw [pr_cons hb] at hx
  have hri:=hlen _ (List.getElem_mem hb)
  have hsi:=hsz _ (List.getElem_mem hb)
  obtain ⟨r,hre⟩:∃r,r=R[i]:=⟨_,rfl⟩
  rw [←hre] at hx hri hsi
  refine W_x (tok_flag tok (fun t=>t == 34)) mixed ?_
  simp -implicitDefEqProofs -dsimp [hb,wrapS i (by omega),L1,flagT]
  refine lw_of (W_loopM 61 [7,9,25,26,27,28,29,30,31,32,33,34,35,36,37,38,39,40,41,42,43,44,45,46,47,48,49,50,51,52,53,54,55,56,57,58,59,60] (by simp [mB]<;>rfl) (σ:=Nat×List (List Int)) (fun p=>i<p.1∧p.2++((((R.drop p.1).filter (odP d r)).map fun s=>[r.id,s.id])++prL (odP d) (R.drop (i+1)))=E) (fun p=>R.length - p.1) (fun p=>[(9,.int .i64 p.1),(7,.buf 2 0 p.2.length p.2.length)]) (fun p=>[B.cells [.str t.name,.lst 1 f (t.attrs.map V.str),.lst 2 g (R.map encRw)],B.cells [.lst 1 f2 (d.l.map encI),.lst 1 g2 (d.r.map encI)],B.buf 34 1 (p.2.map (L1 true)) false]) (i+1,out) ⟨by simp,hx⟩ (by simp) (by simp) (by simp) ?_)
  rintro ⟨k,o2⟩ ⟨hk0,hx2⟩ N2 Q2 hN2 hQ2
  simp only at hk0 hx2
  by_cases hkb:k<R.length
  ·rw [in_cons hkb] at hx2
   have hrk:=hlen _ (List.getElem_mem hkb)
   obtain ⟨s,hse⟩:∃s,s=R[k]:=⟨_,rfl⟩
   rw [←hse] at hx2 hrk
   have c4:=kind17 r s d f2 g2 t.attrs.length hri hrk hl hr hol.1 hol.2 hsi
   simp only [encRw,LV,encOd,L1] at c4
   have ho2:o2.length≤64:=by rw [←hx2] at hE64; simp only [List.length_append] at hE64; omega
   by_cases hq:kindO d r s=0
   ·rw [hq] at c4
    rw [if_neg (by simp [odP,hq]),List.nil_append] at hx2
    refine W_x (tok_flag tok (fun t=>t == 34)) mixed ?_
    simp -implicitDefEqProofs -dsimp [hb,hkb,hre.symm,hse.symm,encRw,LV,L1,flagT]
    refine .inr ⟨stop_of (by kernel_rfl),?_⟩
    refine cy_of _ (callP (c4) (by simp)) ?_
    simp -implicitDefEqProofs -dsimp [wrapS k (by omega),L1,flagT]
    refine hN2 (k+1,o2) _ _ ⟨by simp only; omega,hx2⟩ (by simp only; omega) (by simp) ⟨_,rfl⟩ (by simp) (by simp [L1])
   ·rw [if_pos (by simp [odP,hq])] at hx2
    refine W_x (tok_flag tok (fun t=>t == 34)) mixed ?_
    simp -implicitDefEqProofs -dsimp [hb,hkb,hre.symm,hse.symm,encRw,LV,L1,flagT]
    refine .inr ⟨stop_of (by kernel_rfl),?_⟩
    refine cy_of _ (callP (c4) (by simp)) ?_
    simp -implicitDefEqProofs -dsimp [hq,L1,flagT]
    refine lw_of (W_drawT (tok_flag tok (fun t=>t == 34)) mixed [15] [] [] (by kernel_rfl) fun C K hC hK=>?_)
    simp -implicitDefEqProofs [hb,hkb,hre.symm,hse.symm,encRw,LV,cap24 o2.length (by omega),wrapN o2.length (by omega),L1,flagT]
    refine hK _ _ ?_
    simp -implicitDefEqProofs -dsimp [wrapS k (by omega),L1,flagT]
    refine hN2 (k+1,o2++[[r.id,s.id]]) _ _ ⟨by simp only; omega,by rw [←hx2]; simp⟩ (by simp only; omega) (by simp) ⟨[],by simp [encI,L1]⟩ (by simp) (hrb _)
  ·rw [List.drop_of_length_le (show R.length≤k by omega)] at hx2
   refine W_x (tok_flag tok (fun t=>t == 34)) mixed ?_
   simp -implicitDefEqProofs -dsimp [hkb,L1,flagT]
   refine hQ2 _ _ _ ?_
   simp -implicitDefEqProofs -dsimp [wrapS i (by omega),L1,flagT]
   refine hN (i+1,o2) _ _ (by simpa using hx2) (by simp only; omega) (by simp) ⟨_,rfl⟩ (by simp) (by simp [L1])
 ·rw [List.drop_of_length_le (show R.length≤i by omega),prL,List.append_nil] at hx
  subst hx
  refine W_frz 2 [7] rfl (by simp) ?_
  refine W_x (tok_flag tok (fun t=>t == 34)) mixed ?_
  simp -implicitDefEqProofs -dsimp [hb,L1,flagT]
  refine hQ _ _ _ ?_
  simp -implicitDefEqProofs -dsimp [LT,L1,flagT]
  skip
theorem oclo_u (n:Int) (d:Od) (f2 g2:Bool) (b0 b2:B) (hl:d.l.length≤1000000) (hr:d.r.length≤1000000) :
  WCall Tryz.prog (.fn 191 [.ptr 1 0]) [.int .i64 n] [b0,B.cells [.lst 1 f2 (d.l.map encI),.lst 1 g2 (d.r.map encI)],b2] fun r H'=>r = .bool (odB n d)∧H'=[b0,B.cells [.lst 1 f2 (d.l.map encI),.lst 1 g2 (d.r.map encI)],b2]:=by
 have c:=validO_u n d f2 g2 hl hr
 simp only [encOd,L1] at c
 simp only [WCall,List.cons_append,List.nil_append]
 refine conH_of_W tok Tryz.func191 rfl rfl ?_
 refine wx ?_
 simp -implicitDefEqProofs -dsimp [Tryz.f191,List.replicate]
 refine (callP (c) (by simp)).mono ?_
 rintro r H' ⟨rfl,rfl⟩
 simp -implicitDefEqProofs -dsimp []
def ocB (d:Od) (f2 g2:Bool):B:=B.cells [.lst 1 f2 (d.l.map encI),.lst 1 g2 (d.r.map encI)]
theorem ocB_rb (n:Nat) (d:Od) (f2 g2:Bool):rbB n (ocB d f2 g2):=fun c hc=>by
 simp only [List.mem_cons,List.not_mem_nil,or_false] at hc
 rcases hc with rfl | rfl<;>simp [rb,rb1,encI]
def tcB (t:Tb) (f g:Bool):B:=.cells [.str t.name,.lst 1 f (t.attrs.map V.str),.lst 2 g (t.rows.map encRw)]
theorem tcB_rb (n:Nat) (t:Tb) (f g:Bool):rbB n (tcB t f g):=fun c hc=>by
 simp only [List.mem_cons,List.not_mem_nil,or_false] at hc
 rcases hc with rfl | rfl | rfl<;>simp [rb,rb1]
def rcB (r:Rw):B:=.cells [.int .i64 r.id,.lst 3 false (r.vals.map encV)]
theorem rcB_rb (n:Nat) (r:Rw):rbB n (rcB r):=fun c hc=>by
 simp only [List.mem_cons,List.not_mem_nil,or_false] at hc
 rcases hc with rfl | rfl<;>simp [rb,rb1]
theorem ochk_u (t:Tb) (d:Od) (f g f2 g2:Bool) (h:TbOk t) (hl:d.l.length≤1000000) (hr:d.r.length≤1000000) (hv:validT t=0) (ho:odB t.attrs.length d=true) :
  ConH Tryz.prog 190 [encTb f g t,.fn 191 [.ptr 1 0]] [tcB t f g,ocB d f2 g2] fun r H'=>r = .int .i64 0∧H'=[tcB t f g,ocB d f2 g2]:=by
 have c1:=tableValid t f g h
 rw [hv] at c1
 have c2:=oclo_u t.attrs.length d f2 g2 (tcB t f g) (tcB t f g) hl hr
 rw [ho] at c2
 simp only [encTb,LS,LR] at c1
 refine conH_cutZ ?_ (by simp [rb,rb1]) ⟨Nat.le_refl _,fun bl hbl=>by
  simp only [List.mem_cons,List.not_mem_nil,or_false] at hbl
  rcases hbl with rfl | rfl
  ·exact tcB_rb _ _ _ _
  ·exact ocB_rb _ _ _ _⟩
 simp only [ocB,tcB] at c2 ⊢
 refine conH_of_W tok Tryz.func190 rfl rfl ?_
 refine wx ?_
 simp -implicitDefEqProofs -dsimp [Tryz.f190,List.replicate,encTb,LS,LR]
 refine (callP (c1) (by simp)).mono ?_
 rintro r H' ⟨rfl,rfl⟩
 simp -implicitDefEqProofs -dsimp []
 refine c2.mono ?_
 rintro r H' ⟨rfl,rfl⟩
 simp -implicitDefEqProofs -dsimp []
theorem violO_u (t:Tb) (d:Od) (f g f2 g2:Bool) (h:TbS t) (hl:d.l.length≤1000000) (hr:d.r.length≤1000000) (hv:validT t=0) (ho:odB t.attrs.length d=true):ConP Tryz.prog 131 [encTb f g t,encOd f2 g2 d] fun r=>r = .tup [LL false (prL (odP d) t.rows),.int .i64 0]:=by
 refine conP_LT ?_
 have ct:=tbC hv
 have c1:=ochk_u t d f g f2 g2 h.ok hl hr hv ho
 have hol:AtsOk t.attrs.length d.l∧AtsOk t.attrs.length d.r:=by
  unfold odB at ho
  rw [Bool.and_eq_true] at ho
  exact ⟨ol_ats ho.1,ol_ats ho.2⟩
 simp only [encTb,LR,LS,tcB,ocB] at c1
 obtain ⟨R,hR⟩:∃R,R=t.rows:=⟨_,rfl⟩
 obtain ⟨E,hE⟩:∃E,E=prL (odP d) R:=⟨_,rfl⟩
 have hR8:R.length≤8:=by rw [hR]; exact h.few
 have hE64:E.length≤64:=by rw [hE]; exact Nat.le_trans (prL_len R) (sq8 hR8)
 have hlen:∀r∈R,r.vals.length=t.attrs.length:=by rw [hR]; exact ct.len
 have htB:tcB t f g = .cells [.str t.name,.lst 1 f (t.attrs.map V.str),.lst 2 g (R.map encRw)]:=by rw [hR]; rfl
 rw [←hR] at c1 ⊢
 rw [←hE]
 have hrb:∀o:List (List Int),∀bl∈[B.cells [.str t.name,.lst 1 f (t.attrs.map V.str),.lst 2 g (R.map encRw)],B.cells [.lst 1 f2 (d.l.map encI),.lst 1 g2 (d.r.map encI)],B.buf 34 1 (o.map (L1 true)) false],rbB 3 bl:=fun o bl hbl=>by
  simp only [List.mem_cons,List.not_mem_nil,or_false] at hbl
  rcases hbl with rfl | rfl | rfl
  ·rw [←htB]; exact tcB_rb _ _ _ _
  ·exact ocB_rb _ _ _ _
  ·exact LT_rb _ _ _
 have hrb2:∀(r:Rw) (o:List (List Int)),∀bl∈[B.cells [.str t.name,.lst 1 f (t.attrs.map V.str),.lst 2 g (R.map encRw)],B.cells [.lst 1 f2 (d.l.map encI),.lst 1 g2 (d.r.map encI)],B.buf 34 1 (o.map (L1 true)) false,B.cells [.int .i64 r.id,.lst 3 false (r.vals.map encV)]],rbB 4 bl:=fun r o bl hbl=>by
  simp only [List.mem_cons,List.not_mem_nil,or_false] at hbl
  rcases hbl with rfl | rfl | rfl | rfl
  ·rw [←htB]; exact tcB_rb _ _ _ _
  ·exact ocB_rb _ _ _ _
  ·exact LT_rb _ _ _
  ·exact rcB_rb _ _
 refine conP_of_conH (conH_of_W (tok_flag tok (fun t=>t == 34)) Tryz.func131 rfl rfl ?_)
 refine W_x (tok_flag tok (fun t=>t == 34)) mixed ?_
 simp -implicitDefEqProofs -dsimp [Tryz.f131,List.replicate,encTb,encOd,LR,LS,hR.symm,L1,flagT]
 refine WCall.mono (K:=fun r H'=>r = .int .i64 0∧H'=[B.cells [.str t.name,.lst 1 f (t.attrs.map V.str),.lst 2 g (R.map encRw)],B.cells [.lst 1 f2 (d.l.map encI),.lst 1 g2 (d.r.map encI)]]) c1 ?_
 rintro r H' ⟨rfl,rfl⟩
 simp -implicitDefEqProofs -dsimp [L1,flagT]
 refine lw_of (W_own 34 1 [7] (by simp) (W_loopM 51 [7,8,9,11,21,22,23,24,25,26,27,28,29,30,31,32,33,34,35,36,37,38,39,40,41,42,43,44,45,46,47,48,49,50] (by simp [mB]<;>rfl) (σ:=Nat×List (List Int)) (fun p=>p.2++prL (odP d) (R.drop p.1)=E) (fun p=>R.length - p.1) (fun p=>[(21,.int .i64 p.1),(7,.buf 2 0 p.2.length p.2.length)]) (fun p=>[B.cells [.str t.name,.lst 1 f (t.attrs.map V.str),.lst 2 g (R.map encRw)],B.cells [.lst 1 f2 (d.l.map encI),.lst 1 g2 (d.r.map encI)],B.buf 34 1 (p.2.map (L1 true)) false]) (0,[]) (by rw [hE]; rfl) (by simp) (by simp) (by simp) ?_))
 rintro ⟨i,out⟩ hx N Q hN hQ
 simp only at hx
 by_cases hb:i<R.length
 ·rw [pr_cons hb] at hx
  have hri:=hlen _ (List.getElem_mem hb)
  obtain ⟨r,hre⟩:∃r,r=R[i]:=⟨_,rfl⟩
  rw [←hre] at hx hri
  have hdp:∀x∈(R.map encRw).drop (i+1),AM.Pure x:=fun x hx=>by
   obtain ⟨y,_,rfl⟩:=List.mem_map.1 (List.mem_of_mem_drop hx)
   exact encRw_pure y
  have htk:(R.map encRw).take R.length=R.map encRw:=List.take_of_length_le (by simp)
  refine W_x (tok_flag tok (fun t=>t == 34)) mixed ?_
  simp -implicitDefEqProofs -dsimp [hb,hre.symm,encRw,LV,wrapS i (by omega),show (0:Int)≤(i:Int)+1 by omega,show i+1≤R.length by omega,htk,L1,flagT]
  refine lw_of (W_loopM 50 [7,11,32,33,34,35,36,37,38,39,40,41,42,43,44,45,46,47,48,49] (by simp [mB]<;>rfl) (σ:=Nat×List (List Int)) (fun p=>p.2++((((R.drop (i+1+p.1)).filter (odP d r)).map fun s=>[r.id,s.id])++prL (odP d) (R.drop (i+1)))=E) (fun p=>R.length - p.1) (fun p=>[(32,.int .i64 p.1),(7,.buf 2 0 p.2.length p.2.length)]) (fun p=>[B.cells [.str t.name,.lst 1 f (t.attrs.map V.str),.lst 2 g (R.map encRw)],B.cells [.lst 1 f2 (d.l.map encI),.lst 1 g2 (d.r.map encI)],B.buf 34 1 (p.2.map (L1 true)) false,B.cells [.int .i64 r.id,.lst 3 false (r.vals.map encV)]]) (0,out) hx (by simp) (by simp) (by simp) ?_)
  rintro ⟨k,o2⟩ hx2 N2 Q2 hN2 hQ2
  simp only at hx2
  by_cases hkb:k<R.length - (i+1)
  ·have hkR:i+1+k<R.length:=by omega
   rw [in_cons hkR] at hx2
   have hrk:=hlen _ (List.getElem_mem hkR)
   obtain ⟨s,hse⟩:∃s,s=R[i+1+k]:=⟨_,rfl⟩
   rw [←hse] at hx2 hrk
   have c4:=kind_u r s d f2 g2 t.attrs.length hri hrk hl hr hol.1 hol.2
   simp only [encRw,LV,encOd,L1] at c4
   have ho2:o2.length≤64:=by rw [←hx2] at hE64; simp only [List.length_append] at hE64; omega
   by_cases hq:kindO d r s=0
   ·rw [hq] at c4
    rw [if_neg (by simp [odP,hq]),List.nil_append] at hx2
    refine W_x (tok_flag tok (fun t=>t == 34)) mixed ?_
    simp -implicitDefEqProofs -dsimp [hkb,hkR,hse.symm,encRw,LV,L1,flagT]
    refine (callP (c4) (by simp)).mono ?_
    rintro r H' ⟨rfl,rfl⟩
    simp -implicitDefEqProofs -dsimp [wrapS k (by omega),L1,flagT]
    refine hN2 (k+1,o2) _ _ hx2 (by simp only; omega) (by simp) ⟨[B.cells [.int .i64 s.id,.lst 3 false (s.vals.map encV)]],by simp⟩ (by simp; exact hdp) (hrb2 _ _)
   ·rw [if_pos (by simp [odP,hq])] at hx2
    refine W_x (tok_flag tok (fun t=>t == 34)) mixed ?_
    simp -implicitDefEqProofs -dsimp [hkb,hkR,hse.symm,encRw,LV,L1,flagT]
    refine (callP (c4) (by simp)).mono ?_
    rintro r H' ⟨rfl,rfl⟩
    simp -implicitDefEqProofs -dsimp [hq,cap24 o2.length (by omega),wrapN o2.length (by omega),wrapS k (by omega),L1,flagT]
    refine hN2 (k+1,o2++[[r.id,s.id]]) _ _ (by rw [←hx2]; simp [Nat.add_assoc]) (by simp only; omega) (by simp) ⟨[B.cells [.int .i64 s.id,.lst 3 false (s.vals.map encV)]],by simp [encI,L1]⟩ (by simp; exact hdp) (hrb2 _ _)
  ·rw [List.drop_of_length_le (show R.length≤i+1+k by omega)] at hx2
   refine W_x (tok_flag tok (fun t=>t == 34)) mixed ?_
   simp -implicitDefEqProofs -dsimp [hkb,L1,flagT]
   refine hQ2 _ _ _ ?_
   simp -implicitDefEqProofs -dsimp [wrapS i (by omega),L1,flagT]
   refine hN (i+1,o2) _ _ (by simpa using hx2) (by simp only; omega) (by simp) ⟨[B.cells [.int .i64 r.id,.lst 3 false (r.vals.map encV)]],by simp⟩ (by simp) (hrb _)
 ·rw [List.drop_of_length_le (show R.length≤i by omega),prL,List.append_nil] at hx
  subst hx
  refine W_frz 2 [7] rfl (by simp) ?_
  refine W_x (tok_flag tok (fun t=>t == 34)) mixed ?_
  simp -implicitDefEqProofs -dsimp [hb,L1,flagT]
  refine hQ _ _ _ ?_
  simp -implicitDefEqProofs -dsimp [LT,L1,flagT]
  skip
end
end Go.Proofs.YtjogkbekekdkjaaGreatDoor
namespace Go.Proofs.YtjogkbekekdkjaaGreatDoor
section
open Go Go.AM Go.RowKit
theorem capRw (n:Nat) (h:n≤1000000000):n≤9223372036854775806∧(n+1)*32≤140737488355328:=by omega
theorem capCn (n:Nat) (h:n≤1000000):n≤9223372036854775806∧(n+1)*272≤140737488355328:=by omega
theorem conO_row0 {f:FuncId} {args:List V} {e z:Nat} (hE:AM.Enters Tryz.prog f) (h:∀(F:Nat→Prop) (w:World) (vals:Array Value),vals.size=args.length→(∀(i:Nat) a u,args[i]?=some a→vals[i]?=some u→Rel (AM.base F w) a u) →
  Calls Tryz.prog f vals w fun e' w'=>∃v,e' = .returned v∧Below w.heap.size w w'∧(v = .slice none 0 0∨∃g c cur,v = .slice (some ⟨g,0,none⟩) 0 c∧w.heap.size≤g∧w'.heap[g]?=some (.cells cur e (0,0))∧c≤maxLen∧cur.size=c*z)):ConO Tryz.prog f args fun e' z' ys=>e'=e∧z'=z∧ys=[]:=by
 refine ⟨hE,fun F w vals hZ hF hsz hrel=>(h F w vals hsz hrel).mono fun e' w' ⟨v,he,hb,hv⟩=>?_⟩
 rcases hv with hv | ⟨g,c,cur,hv,hg,hc,hm,hs⟩
 ·have hF':∀b,F b→b<w'.heap.size:=fun b hb'=>Nat.lt_of_lt_of_le (hF b hb') hb.size
  obtain ⟨p1,_⟩:=push0 (AM.base_good hF') (w:=w') 0 e z false rfl rfl rfl (Nat.le_refl _) (fun _ _=>rfl)
  refine ⟨v,e,z,[],none,0,0,he,hv,fun h=>absurd rfl h,by simp,fun h=>absurd rfl h,?_,hb,rfl,rfl,rfl⟩
  refine ⟨hF',fun k hk=>absurd (hk.2 e z [] false (by have:=hk.1; simp at this; subst this; rfl)) (by simp),fun j k hj hk _=>by have:=hj.1; have:=hk.1; simp at *; omega,fun k bl hk=>?_⟩
  have hk0:k=0:=by have:=getElem?_lt hk; simp at this; omega
  subst hk0
  simp at hk
  subst hk
  exact ⟨#[],fun h=>absurd rfl h,by simp,by simp,by simp [maxLen],(fun x hx=>by cases hx),(fun i x j c u hx=>by simp at hx)⟩
 ·have hF':∀b,F b→b<w'.heap.size:=fun b hb'=>Nat.lt_of_lt_of_le (hF b hb') hb.size
  refine ⟨v,e,z,[],some ⟨g,0,none⟩,g,c,he,hv,fun _=>rfl,by simp,fun _=>hg,?_,hb,rfl,rfl,rfl⟩
  refine ⟨hF',fun k hk=>⟨(Array.getElem?_eq_some_iff.1 hc).1,fun hf=>by have:=hF g hf; omega⟩,fun j k hj hk _=>by have:=hj.1; have:=hk.1; simp at *; omega,fun k bl hk=>?_⟩
  have hk0:k=0:=by have:=getElem?_lt hk; simp at this; omega
  subst hk0
  simp at hk
  subst hk
  exact ⟨cur,fun _=>hc,by simpa using hs,by simp,hm,(fun x hx=>by cases hx),(fun i x j c u hx=>by simp at hx)⟩
theorem infoD_R:(Tryz.prog.info? 80).map (fun i=>(i.zero,i.size,i.bytes))=some (some (.agg #[.int .i64 0,.slice none 0 0]),2,32):=by kernel_rfl
theorem cloneE_R (A:Option Addr) (cap:Nat) (w:World) :
  Calls Tryz.prog 245 #[.slice A 0 cap] w fun e w'=>∃v,e = .returned v∧w'.ownsRow w.heap.size 80 2 v 0 []∧Below w.heap.size w w':=by
 have hnil:=fun W A n c=>Lib.run_eql_slice_nil (P:=Tryz.prog) W 30 80 A n c 0 0 Tryz.underlying30
 cases A with
 | none =>
  go_enter Tryz.func245,Tryz.ntmps245
  go_wp2
  go_ret
  exact ⟨_,rfl,World.ownsRow_nil _ _ _ _,Below.refl _ _⟩
 | some ad =>
  obtain ⟨i0,hi,hz0,hz1,hz2⟩:=info_parts infoD_R
  have hown:(w.alloc (.cells #[] 80)).ownsRow w.heap.size 80 2 (.slice (some ⟨w.heap.size,0,none⟩) 0 0) 0 []:=World.ownsRow_lit w #[] 0 (Nat.le_refl _) (by simp [maxLen]) (by simp)
  have hnews:∀j u,([]:List Value)[j]?=some u→(w.alloc (.cells #[] 80)).cell? (ad.add j)=some u:=by
   intro j u hu
   simp at hu
  have hone:∀u∈([]:List Value),u.oneCell'=true:=by intro u hu; cases hu
  have h63:0+0≤maxLen:=by simp [maxLen]
  have hby:(0+0)*32≤140737488355328:=by omega
  have hlen:([]:List Value).length=0*2:=by simp
  have Hi:=Lib.hid (show Tryz.prog.info? 80=some i0∧i0.zero=some _∧i0.size=2∧i0.bytes=32 from ⟨hi,hz0,hz1,hz2⟩)
  have Hw:=Lib.hid (And.intro hown (And.intro hnews (And.intro hone (And.intro h63 (And.intro hby hlen)))))
  clear hnews hone hown hi hz0 hz1 hz2 h63 hby hlen
  go_enter Tryz.func245,Tryz.ntmps245
  go_wp2_with (at_builtin; refine wpList_append_own _ rfl _ _ 30 rfl w.heap.size 80 i0 _ 2 32 Tryz.underlying30 Hi.out.1 Hi.out.2.1 Hi.out.2.2.1 Hi.out.2.2.2 rfl (by omega) (.slice (some ⟨w.heap.size,0,none⟩) 0 0) 0 [] rfl Hw.out.1 ad 0 cap [] rfl Hw.out.2.2.2.2.2 Hw.out.2.1 Hw.out.2.2.1 Hw.out.2.2.2.1 Hw.out.2.2.2.2.1 (by simp) ?_; intro v1 w1 ho hg hn; have Ho:=Lib.hid ho; have Hg:=Lib.hid hg; have Hn:=Lib.hid hn; clear ho hg hn)
  go_ret
  exact ⟨v1,rfl,by have:=Ho.out; simpa using this,((Below.refl _ _).alloc (Nat.le_refl _) _).grown Hg.out (by simp) (by simp [Value.ownBlock])⟩
theorem cloneN_R:∀(f:Bool),ConP Tryz.prog 245 [.lst 2 f []] fun r=>r = .lst 2 false []:=fun f=>by
 have hO:ConO Tryz.prog 245 [.lst 2 f []] fun e z ys=>e=80∧z=2∧ys=[]:=conO_row0 ⟨Tryz.f245,Tryz.func245,rfl,rfl⟩ (fun F w vals hsz hrel=>by
  obtain ⟨u0,rfl⟩:∃u0,vals = #[u0]:=by
   obtain ⟨l⟩:=vals
   match l,hsz with
   | [a],_=>exact ⟨a,rfl⟩
  have r0:=hrel 0 _ u0 rfl rfl
  cases r0
  refine (cloneE_R _ _ _).mono fun e' w' ⟨v,he,hown,hb⟩=>⟨v,he,hb,?_⟩
  obtain ⟨_,⟨hv,_⟩ | ⟨g,c,cur,hv,hg,hc,hn,hm,hs,_⟩⟩:=hown
  ·exact .inl hv
  ·exact .inr ⟨g,c,cur,hv,hg,hc,hm,hs⟩)
 refine ⟨hO.1,fun F w vals hZ hF hsz hrel=>((conP_of_conO hO).2 F w vals hZ hF hsz hrel).mono fun e w' ⟨u,r,h1,h2,h3,h4,e',z,ys,h5,h6,h7,h8⟩=>?_⟩
 subst h6; subst h7; subst h8
 exact ⟨u,r,h1,h2,h3,h4,h5⟩
theorem infoD_K:(Tryz.prog.info? 62).map (fun i=>(i.zero,i.size,i.bytes))=some (some (.agg #[.string ByteArray.empty,.string ByteArray.empty,.int .i64 0,.int .u32 0,.int .u32 0,.int .u32 0,.int .u32 0,.string ByteArray.empty,.slice none 0 0,.string ByteArray.empty,.slice none 0 0,.slice none 0 0,.int .i64 0,.slice none 0 0,.slice none 0 0,.slice none 0 0,.int .i64 0,.slice none 0 0]),18,272):=by kernel_rfl
theorem cloneE_K (A:Option Addr) (cap:Nat) (w:World) :
  Calls Tryz.prog 14 #[.slice A 0 cap] w fun e w'=>∃v,e = .returned v∧w'.ownsRow w.heap.size 62 18 v 0 []∧Below w.heap.size w w':=by
 have hnil:=fun W A n c=>Lib.run_eql_slice_nil (P:=Tryz.prog) W 33 62 A n c 0 0 Tryz.underlying33
 cases A with
 | none =>
  go_enter Tryz.func14,Tryz.ntmps14
  go_wp2
  go_ret
  exact ⟨_,rfl,World.ownsRow_nil _ _ _ _,Below.refl _ _⟩
 | some ad =>
  obtain ⟨i0,hi,hz0,hz1,hz2⟩:=info_parts infoD_K
  have hown:(w.alloc (.cells #[] 62)).ownsRow w.heap.size 62 18 (.slice (some ⟨w.heap.size,0,none⟩) 0 0) 0 []:=World.ownsRow_lit w #[] 0 (Nat.le_refl _) (by simp [maxLen]) (by simp)
  have hnews:∀j u,([]:List Value)[j]?=some u→(w.alloc (.cells #[] 62)).cell? (ad.add j)=some u:=by
   intro j u hu
   simp at hu
  have hone:∀u∈([]:List Value),u.oneCell'=true:=by intro u hu; cases hu
  have h63:0+0≤maxLen:=by simp [maxLen]
  have hby:(0+0)*272≤140737488355328:=by omega
  have hlen:([]:List Value).length=0*18:=by simp
  have Hi:=Lib.hid (show Tryz.prog.info? 62=some i0∧i0.zero=some _∧i0.size=18∧i0.bytes=272 from ⟨hi,hz0,hz1,hz2⟩)
  have Hw:=Lib.hid (And.intro hown (And.intro hnews (And.intro hone (And.intro h63 (And.intro hby hlen)))))
  clear hnews hone hown hi hz0 hz1 hz2 h63 hby hlen
  go_enter Tryz.func14,Tryz.ntmps14
  go_wp2_with (at_builtin; refine wpList_append_own _ rfl _ _ 33 rfl w.heap.size 62 i0 _ 18 272 Tryz.underlying33 Hi.out.1 Hi.out.2.1 Hi.out.2.2.1 Hi.out.2.2.2 rfl (by omega) (.slice (some ⟨w.heap.size,0,none⟩) 0 0) 0 [] rfl Hw.out.1 ad 0 cap [] rfl Hw.out.2.2.2.2.2 Hw.out.2.1 Hw.out.2.2.1 Hw.out.2.2.2.1 Hw.out.2.2.2.2.1 (by simp) ?_; intro v1 w1 ho hg hn; have Ho:=Lib.hid ho; have Hg:=Lib.hid hg; have Hn:=Lib.hid hn; clear ho hg hn)
  go_ret
  exact ⟨v1,rfl,by have:=Ho.out; simpa using this,((Below.refl _ _).alloc (Nat.le_refl _) _).grown Hg.out (by simp) (by simp [Value.ownBlock])⟩
theorem cloneN_K:∀(f:Bool),ConP Tryz.prog 14 [.lst 18 f []] fun r=>r = .lst 18 false []:=fun f=>by
 have hO:ConO Tryz.prog 14 [.lst 18 f []] fun e z ys=>e=62∧z=18∧ys=[]:=conO_row0 ⟨Tryz.f14,Tryz.func14,rfl,rfl⟩ (fun F w vals hsz hrel=>by
  obtain ⟨u0,rfl⟩:∃u0,vals = #[u0]:=by
   obtain ⟨l⟩:=vals
   match l,hsz with
   | [a],_=>exact ⟨a,rfl⟩
  have r0:=hrel 0 _ u0 rfl rfl
  cases r0
  refine (cloneE_K _ _ _).mono fun e' w' ⟨v,he,hown,hb⟩=>⟨v,he,hb,?_⟩
  obtain ⟨_,⟨hv,_⟩ | ⟨g,c,cur,hv,hg,hc,hn,hm,hs,_⟩⟩:=hown
  ·exact .inl hv
  ·exact .inr ⟨g,c,cur,hv,hg,hc,hm,hs⟩)
 refine ⟨hO.1,fun F w vals hZ hF hsz hrel=>((conP_of_conO hO).2 F w vals hZ hF hsz hrel).mono fun e w' ⟨u,r,h1,h2,h3,h4,e',z,ys,h5,h6,h7,h8⟩=>?_⟩
 subst h6; subst h7; subst h8
 exact ⟨u,r,h1,h2,h3,h4,h5⟩
theorem clone_K (l:List Cn) (f:Bool) (hl:l.length≤1000000):ConP Tryz.prog 14 [LCn f l] fun r=>r=LCn false l:=by
 cases l with
 | nil=>exact cloneN_K f
 | cons x xs =>
  have hl':xs.length≤1000000:=by simp only [List.length_cons] at hl; omega
  refine conP_of_conH (conH_of_W tok Tryz.func14 rfl rfl ?_)
  refine wx ?_
  simp -implicitDefEqProofs -dsimp [Tryz.f14,List.replicate,LCn,eqA2,capCn xs.length (by omega),encCn]
  exact exp_buf rfl (by simp) (by simp)
theorem cloneO0_R (f:Bool):ConO Tryz.prog 245 [.lst 2 f []] fun e z ys=>e=80∧z=2∧ys=[]:=conO_row0 ⟨Tryz.f245,Tryz.func245,rfl,rfl⟩ (fun F w vals hsz hrel=>by
  obtain ⟨u0,rfl⟩:∃u0,vals = #[u0]:=by
   obtain ⟨l⟩:=vals
   match l,hsz with
   | [a],_=>exact ⟨a,rfl⟩
  have r0:=hrel 0 _ u0 rfl rfl
  cases r0
  refine (cloneE_R _ _ _).mono fun e' w' ⟨v,he,hown,hb⟩=>⟨v,he,hb,?_⟩
  obtain ⟨_,⟨hv,_⟩ | ⟨g,c,cur,hv,hg,hc,hn,hm,hs,_⟩⟩:=hown
  ·exact .inl hv
  ·exact .inr ⟨g,c,cur,hv,hg,hc,hm,hs⟩)
theorem cloneO_R (l:List Rw) (f:Bool) (hl:l.length≤1000000):ConO Tryz.prog 245 [.lst 2 f (l.map encRw)] fun e z ys=>e=80∧z=2∧ys=l.map encRw:=by
 cases l with
 | nil=>exact cloneO0_R f
 | cons x xs =>
  have hl':xs.length≤1000000:=by simp only [List.length_cons] at hl; omega
  refine conO_of_conH (conH_of_W tok Tryz.func245 rfl rfl ?_)
  refine wx ?_
  simp -implicitDefEqProofs -dsimp [Tryz.f245,List.replicate,eqA2,capRw xs.length (by omega),encRw]
  exact ⟨0,80,2,encRw x::xs.map encRw,by simp,rfl,by simp,rfl,rfl,rfl⟩
end
end Go.Proofs.YtjogkbekekdkjaaGreatDoor
namespace Go.Proofs.YtjogkbekekdkjaaGreatDoor
section
open Go Go.AM
theorem satisfied_u (al:List At) (rs:List Rw) (f g:Bool) (h:∀a∈al,AtOk rs a) (hl:rs.length≤1000000) (ha:al.length≤1000000):ConP Tryz.prog 242 [LR g rs,LA f al] fun r=>r = .bool (al.all (atS rs)):=by
 obtain ⟨E,hE⟩:∃E,E=al.all (atS rs):=⟨_,rfl⟩
 rw [←hE]
 refine conP_of_conH (conH_of_W tok Tryz.func242 rfl rfl ?_)
 refine wx ?_
 simp -implicitDefEqProofs -dsimp [Tryz.f242,List.replicate,LA,LR]
 refine lw_of (W_loopM 45 [4,6,7,8,11,12,13,14,15,16,17,18,19,20,21,22,23,24,25,26,27,28,29,30,31,32,33,34,35,36,37,38,39,40,41,42,43,44] (by simp [mB]<;>rfl) (σ:=Nat) (fun i=>(al.drop i).all (atS rs)=E) (fun i=>al.length - i) (fun i=>[(11,.int .i64 i)]) (fun _=>[]) 0 (by rw [hE,List.drop_zero]) (by simp) (by simp) (by simp) ?_)
 intro i hx N Q hN hQ
 by_cases hb:i<al.length
 ·rw [List.drop_eq_getElem_cons hb,List.all_cons] at hx
  have hk:=h _ (List.getElem_mem hb)
  obtain ⟨a,hae⟩:∃a,a=al[i]:=⟨_,rfl⟩
  rw [←hae] at hx hk
  have c1:=get_u a.l rs g hk.l hl
  have c2:=get_u a.r rs g hk.r hl
  have c3:=valueCompare (tmV rs a.l) (tmV rs a.r)
  simp only [encTm,encV,LR] at c1 c2 c3
  have h1:=hk.lo
  have h2:=hk.hi
  obtain ⟨q,hq⟩:∃q,q=cmpV (tmV rs a.l) (tmV rs a.r):=⟨_,rfl⟩
  unfold atS at hx
  rw [←hq] at c3 hx
  have fin:∀b:Bool,(b&&(al.drop (i+1)).all (atS rs))=E→(b=true→(al.drop (i+1)).all (atS rs)=E)∧(b=false→E=false):=fun b hb2=>by
   cases b
   ·exact ⟨fun h=>(by cases h),fun _=>(by simpa using hb2.symm)⟩
   ·exact ⟨fun _=>(by simpa using hb2),fun h=>(by cases h)⟩
  by_cases e1:a.op=1
  ·rw [if_pos e1] at hx
   obtain ⟨f1,f2⟩:=fin _ hx
   by_cases e0:q=0
   ·refine wx ?_
    simp -implicitDefEqProofs -dsimp [hb,hae.symm,encAt,e1]
    refine .inr ⟨stop_of (by kernel_rfl),?_⟩
    refine cy_of _ (callP (c1) (by simp)) ?_
    simp -implicitDefEqProofs -dsimp []
    refine cy_of _ (callP (c2) (by simp)) ?_
    simp -implicitDefEqProofs -dsimp []
    refine cy_of _ (callP (c3) (by simp)) ?_
    simp -implicitDefEqProofs -dsimp [e1,e0,wrapS i (by omega)]
    refine hN (i+1) _ _ (f1 (by simp [e0])) (by omega) (by simp) ⟨_,rfl⟩ (by simp) (by simp)
   ·refine wx ?_
    simp -implicitDefEqProofs -dsimp [hb,hae.symm,encAt,e1]
    refine .inr ⟨stop_of (by kernel_rfl),?_⟩
    refine cy_of _ (callP (c1) (by simp)) ?_
    simp -implicitDefEqProofs -dsimp []
    refine cy_of _ (callP (c2) (by simp)) ?_
    simp -implicitDefEqProofs -dsimp []
    refine cy_of _ (callP (c3) (by simp)) ?_
    simp -implicitDefEqProofs -dsimp [e1,e0]
    refine hQ _ _ _ ?_
    simp -implicitDefEqProofs -dsimp []
    rw [f2 (by simp [e0])]
  rw [if_neg e1] at hx
  by_cases e2:a.op=2
  ·rw [if_pos e2] at hx
   obtain ⟨f1,f2⟩:=fin _ hx
   by_cases e0:q=0
   ·refine wx ?_
    simp -implicitDefEqProofs -dsimp [hb,hae.symm,encAt,e2]
    refine .inr ⟨stop_of (by kernel_rfl),?_⟩
    refine cy_of _ (callP (c1) (by simp)) ?_
    simp -implicitDefEqProofs -dsimp []
    refine cy_of _ (callP (c2) (by simp)) ?_
    simp -implicitDefEqProofs -dsimp []
    refine cy_of _ (callP (c3) (by simp)) ?_
    simp -implicitDefEqProofs -dsimp [e2,e0]
    refine hQ _ _ _ ?_
    simp -implicitDefEqProofs -dsimp []
    rw [f2 (by simp [e0])]
   ·refine wx ?_
    simp -implicitDefEqProofs -dsimp [hb,hae.symm,encAt,e2]
    refine .inr ⟨stop_of (by kernel_rfl),?_⟩
    refine cy_of _ (callP (c1) (by simp)) ?_
    simp -implicitDefEqProofs -dsimp []
    refine cy_of _ (callP (c2) (by simp)) ?_
    simp -implicitDefEqProofs -dsimp []
    refine cy_of _ (callP (c3) (by simp)) ?_
    simp -implicitDefEqProofs -dsimp [e2,e0,wrapS i (by omega)]
    refine hN (i+1) _ _ (f1 (by simp [e0])) (by omega) (by simp) ⟨_,rfl⟩ (by simp) (by simp)
  rw [if_neg e2] at hx
  by_cases e3:a.op=3
  ·rw [if_pos e3] at hx
   obtain ⟨f1,f2⟩:=fin _ hx
   by_cases e0:q<0
   ·refine wx ?_
    simp -implicitDefEqProofs -dsimp [hb,hae.symm,encAt,e3]
    refine .inr ⟨stop_of (by kernel_rfl),?_⟩
    refine cy_of _ (callP (c1) (by simp)) ?_
    simp -implicitDefEqProofs -dsimp []
    refine cy_of _ (callP (c2) (by simp)) ?_
    simp -implicitDefEqProofs -dsimp []
    refine cy_of _ (callP (c3) (by simp)) ?_
    simp -implicitDefEqProofs -dsimp [e3,e0,wrapS i (by omega)]
    refine hN (i+1) _ _ (f1 (by simp [e0])) (by omega) (by simp) ⟨_,rfl⟩ (by simp) (by simp)
   ·refine wx ?_
    simp -implicitDefEqProofs -dsimp [hb,hae.symm,encAt,e3]
    refine .inr ⟨stop_of (by kernel_rfl),?_⟩
    refine cy_of _ (callP (c1) (by simp)) ?_
    simp -implicitDefEqProofs -dsimp []
    refine cy_of _ (callP (c2) (by simp)) ?_
    simp -implicitDefEqProofs -dsimp []
    refine cy_of _ (callP (c3) (by simp)) ?_
    simp -implicitDefEqProofs -dsimp [e3,e0]
    refine hQ _ _ _ ?_
    simp -implicitDefEqProofs -dsimp []
    rw [f2 (by simp [e0])]
  rw [if_neg e3] at hx
  have e4:a.op=4:=by omega
  obtain ⟨f1,f2⟩:=fin _ hx
  by_cases e0:q≤0
  ·refine wx ?_
   simp -implicitDefEqProofs -dsimp [hb,hae.symm,encAt,e4]
   refine .inr ⟨stop_of (by kernel_rfl),?_⟩
   refine cy_of _ (callP (c1) (by simp)) ?_
   simp -implicitDefEqProofs -dsimp []
   refine cy_of _ (callP (c2) (by simp)) ?_
   simp -implicitDefEqProofs -dsimp []
   refine cy_of _ (callP (c3) (by simp)) ?_
   simp -implicitDefEqProofs -dsimp [e4,e0,wrapS i (by omega)]
   refine hN (i+1) _ _ (f1 (by simp [e0])) (by omega) (by simp) ⟨_,rfl⟩ (by simp) (by simp)
  ·refine wx ?_
   simp -implicitDefEqProofs -dsimp [hb,hae.symm,encAt,e4]
   refine .inr ⟨stop_of (by kernel_rfl),?_⟩
   refine cy_of _ (callP (c1) (by simp)) ?_
   simp -implicitDefEqProofs -dsimp []
   refine cy_of _ (callP (c2) (by simp)) ?_
   simp -implicitDefEqProofs -dsimp []
   refine cy_of _ (callP (c3) (by simp)) ?_
   simp -implicitDefEqProofs -dsimp [e4,e0]
   refine hQ _ _ _ ?_
   simp -implicitDefEqProofs -dsimp []
   rw [f2 (by simp [e0])]
 ·rw [List.drop_of_length_le (by omega)] at hx
  refine wx ?_
  simp -implicitDefEqProofs -dsimp [hb]
  refine hQ _ _ _ ?_
  simp -implicitDefEqProofs -dsimp []
  simpa using hx
theorem same_u (H:List B) (j:Nat) (r:Rw) (hj:H[j]?=some (.cells [.int .i64 r.id,.lst 3 false (r.vals.map encV)])) (hH:∀bl∈H,rbB H.length bl) (x:Rw) :
  WCall Tryz.prog (.fn 244 [.ptr j 0]) [encRw x] H fun a H'=>a = .bool (x.id == r.id)∧H'=H:=by
 have hlt:=getElem?_lt hj
 have hj2:∀y,(H++[y])[j]?=some (.cells [.int .i64 r.id,.lst 3 false (r.vals.map encV)]):=fun y=>by rw [List.getElem?_append_left hlt]; exact hj
 simp only [WCall,List.cons_append,List.nil_append]
 refine conH_cutZ ?_ (by simp [rb,rb1]) ⟨Nat.le_refl _,hH⟩
 refine conH_of_W tok Tryz.func244 rfl rfl ?_
 refine wx ?_
 simp -implicitDefEqProofs -dsimp [Tryz.f244,List.replicate,encRw,LV,hj2]
theorem conH_lf {P:Program} {f:FuncId} {args args':List V} {H:List B} {K:V→List B→Prop} (h:ConH P f args' H K) (hl:LfL args args'):ConH P f args H K :=
 ⟨h.1,fun s vals hA hg hsz hrel=>h.2 s vals hA hg (by rw [hsz,hl.len]) (fun i a u ha hu=>by
  have hlt:i<args.length:=by have:=getElem?_lt ha; rw [hl.len]; exact this
  exact lf_rel (hrel i _ u (List.getElem?_eq_getElem hlt) hu) (hl.at_ i _ a (List.getElem?_eq_getElem hlt) ha))⟩
theorem conH_frz {P:Program} {f:FuncId} {args args':List V} {H:List B} {K:V→List B→Prop} (k:Nat) {e z:Nat} {xs:List V} {fz:Bool} (hk:H[k]?=some (.buf e z xs fz)) (h:ConH P f args' (H.set k (.buf e z xs true)) K) (hr:RepF (.buf k 0 xs.length xs.length) (.lst z false xs) args args'):ConH P f args H K:=by
 refine ⟨h.1,fun s vals hA hg hsz hrel=>?_⟩
 obtain ⟨rfl,hZ⟩:=hA
 obtain ⟨p1,p2,_⟩:=frz_ok hg hk
 have hl:=hr.len
 refine (h.2 (s.frz k (.buf e z xs true)) vals ⟨rfl,hZ.step p2⟩ p1 (by omega) (fun i b u hb hu=>?_)).mono fun e' w' ⟨u,s',r,a1,a2,a3,a4,a5,a6⟩=>⟨u,s',r,a1,a2,a3,p2.trans a4,a5,a6⟩
 have hx:args[i]?=some (args[i]'(by have:=getElem?_lt hb; omega)):=List.getElem?_eq_getElem _
 exact frz_rep hg hk (hrel i _ u hx hu) (hr.at_ i _ b hx hb)
def Back (t:Tb) (d:Dn) (fv:V) (K:List (List Int)→List B) (m:Nat):Prop :=
 ∀(X:List B),(∀bl∈X,rbB (m+X.length) bl)→∀(rs:List Rw) (fl:Bool) (o:List (List Int)),rs.length=d.vars.toNat→(∀r∈rs,r∈t.rows)→o.length<20000→(∀l∈o,l.length=d.vars.toNat)→WCall Tryz.prog fv [LR fl rs] (K o++X) fun r H'=>r = .bool true∧H'=K (putN o (srt (idsR rs)))++X
theorem app0 {J:List B} {n:Nat} (h:J.length=n):∀x l,(J++x::l)[n]?=some x:=fun x l=>by subst h; simp
theorem app1 {J:List B} {n:Nat} (h:J.length=n):∀y x l,(J++y::x::l)[n+1]?=some x:=fun y x l=>by subst h; rw [List.getElem?_append_right (by omega)]; simp
theorem app2 {J:List B} {n:Nat} (h:J.length=n):∀z y x l,(J++z::y::x::l)[n+2]?=some x:=fun z y x l=>by subst h; rw [List.getElem?_append_right (by omega)]; simp
theorem rows_rb2 (n:Nat) (e:Nat) (ms:List Rw) (fz:Bool):rbB n (.buf e 2 (ms.map encRw) fz):=by
 intro x hx
 obtain ⟨y,_,rfl⟩:=List.mem_map.1 hx
 intro c hc
 simp only [encRw,V.cells,List.mem_cons,List.not_mem_nil,or_false] at hc
 rcases hc with rfl | rfl<;>simp [rb,rb1,LV]
theorem app3 {J:List B} {n:Nat} (h:J.length=n):∀w z y x l,(J++w::z::y::x::l)[n+3]?=some x:=fun w z y x l=>by subst h; rw [List.getElem?_append_right (by omega)]; simp
theorem set3 {J:List B} {n:Nat} (h:J.length=n):∀a b c x y,(J++[a,b,c,x]).set (n+3) y=J++[a,b,c,y]:=fun a b c x y=>by subst h; rw [List.set_append_right _ _ (by omega)]; simp
theorem rbM12 {n m:Nat} (h:n≤m) {v:V} (hv:rb1 n v):rb1 m v:=by
 cases v<;>simp only [rb1] at hv ⊢<;>first | exact hv | omega | trivial
theorem rbM2 {n m:Nat} (h:n≤m) {v:V} (hv:rb n v):rb m v:=by
 cases v<;>simp only [rb] at hv ⊢<;>first | exact rbM12 h hv | exact fun c hc=>rbM12 h (hv c hc) | trivial
theorem rbB_le2 {n m:Nat} (h:n≤m) {bl:B} (hb:rbB n bl):rbB m bl:=by
 cases bl with
 | cells cs=>exact fun c hc=>rbM2 h (hb c hc)
 | map kk es=>exact fun p hp=>⟨rbM2 h (hb p hp).1,rbM2 h (hb p hp).2⟩
 | buf e z xs fz=>exact fun x hx c hc=>rbM2 h (hb x hx c hc)
theorem rbs_app2 {H G:List B} (hH:∀bl∈H,rbB H.length bl) (hG:∀bl∈G,rbB (H.length+G.length) bl):∀bl∈H++G,rbB (H++G).length bl:=fun bl hb=>by
 rw [List.length_append]
 rcases List.mem_append.1 hb with h | h
 ·exact rbB_le2 (by omega) (hH bl h)
 ·exact hG bl h
theorem rbs_of {J X:List B} {m:Nat} (hl:J.length=m) (hJ:∀bl∈J,rbB m bl) (hX:∀bl∈X,rbB (m+X.length) bl):∀bl∈J++X,rbB (J++X).length bl:=by
 subst hl
 exact rbs_app2 hJ hX
def dcB (d:Dn) (f:Bool):B:=.cells [.int .i64 d.vars,.lst 11 f (d.atoms.map encAt)]
theorem dcB_rb (n:Nat) (d:Dn) (f:Bool):rbB n (dcB d f):=fun c hc=>by
 simp only [List.mem_cons,List.not_mem_nil,or_false] at hc
 rcases hc with rfl | rfl<;>simp [rb,rb1]
theorem visit_u (t:Tb) (d:Dn) (f g f2:Bool) (fv:V) (K:List (List Int)→List B) (m:Nat) (hKl:∀o,(K o).length=m) (hKr:∀o,∀bl∈K o,rbB m bl) (hfv:rb m fv) (hn:t.rows.length≤8) (ha:d.atoms.length≤1000000)
  (hat:∀rs,rs.length=d.vars.toNat→(∀r∈rs,r∈t.rows)→∀a∈d.atoms,AtOk rs a) (hv1:1≤d.vars) (hv3:d.vars≤3) (hB:Back t d fv K m) :
  ∀(k:Nat) (p:List Rw) (X:List B) (o:List (List Int)) (fl:Bool),k+p.length=d.vars.toNat→(∀r∈p,r∈t.rows)→(∀bl∈X,rbB (m+X.length) bl)→o.length+t.rows.length^k<20000→(∀l∈o,l.length=d.vars.toNat) →
   ConH Tryz.prog 194 [encTb f g t,encDn f2 d,LR fl p,fv] (K o++X) fun r H'=>r = .bool true∧H'=K (visF d t.rows k p o)++X:=by
 intro k
 induction k with
 | zero =>
  intro p X o fl hk hp hX ho hoL
  have hkp:p.length=d.vars.toNat:=by omega
  have hpl:(p.length:Int)=d.vars:=by omega
  have cs:=satisfied_u d.atoms p f2 fl (hat p hkp hp) (by omega) ha
  have hXX:∀bl∈X++[tcB t f g,dcB d f2],rbB (m+(X++[tcB t f g,dcB d f2]).length) bl:=fun bl hbl=>by
   rcases List.mem_append.1 hbl with h | h
   ·exact rbB_le2 (by simp<;>omega) (hX bl h)
   ·simp only [List.mem_cons,List.not_mem_nil,or_false] at h
    rcases h with rfl | rfl
    ·exact tcB_rb _ _ _ _
    ·exact dcB_rb _ _ _
  have hb:=hB _ hXX p fl o hkp hp (by omega) hoL
  rw [←List.append_assoc,←List.append_assoc] at hb
  have hJl:(K o++X).length=m+X.length:=by rw [List.length_append,hKl]
  refine conH_cutZ ?_ (by simp [rb,rb1]) ⟨by simp [hKl],rbs_of (hKl _) (hKr _) hX⟩
  unfold visF stV
  obtain ⟨J,hJ⟩:∃J,J=K o++X:=⟨_,rfl⟩
  rw [←hJ] at hb hJl ⊢
  obtain ⟨n,hnn⟩:∃n,n=m+X.length:=⟨_,rfl⟩
  rw [←hnn] at hJl
  have g0:=app0 hJl
  have g1:=app1 hJl
  simp only [LR,LA] at cs hb
  simp only [tcB,dcB] at hb
  cases hs:allS d p with
  | false =>
   rw [show d.atoms.all (atS p)=false from hs] at cs
   rw [if_neg (by simp)]
   refine conH_of_W tok Tryz.func194 rfl rfl ?_
   refine wx ?_
   simp -implicitDefEqProofs -dsimp [Tryz.f194,List.replicate,encTb,LR,LS,encDn,LA,hpl,hJl,g0,g1]
   refine (callP (cs) (by simp)).mono ?_
   rintro r H' ⟨rfl,rfl⟩
   simp -implicitDefEqProofs -dsimp []
   exact ⟨[tcB t f g,dcB d f2],by rw [hJ,List.append_assoc]; rfl⟩
  | true =>
   rw [show d.atoms.all (atS p)=true from hs] at cs
   rw [if_pos rfl]
   refine conH_of_W tok Tryz.func194 rfl rfl ?_
   refine wx ?_
   simp -implicitDefEqProofs -dsimp [Tryz.f194,List.replicate,encTb,LR,LS,encDn,LA,hpl,hJl,g0,g1]
   refine (callP (cs) (by simp)).mono ?_
   rintro r H' ⟨rfl,rfl⟩
   simp -implicitDefEqProofs -dsimp []
   refine hb.mono ?_
   rintro r H' ⟨rfl,rfl⟩
   simp -implicitDefEqProofs -dsimp []
   skip
 | succ k ih =>
  intro p X o fl hk hp hX ho hoL
  have hpn:¬(p.length:Int)=d.vars:=by omega
  have hpl:p.length≤3:=by omega
  obtain ⟨E,hE⟩:∃E,E=visF d t.rows (k+1) p o:=⟨_,rfl⟩
  rw [←hE]
  unfold visF at hE
  obtain ⟨R,hR⟩:∃R,R=t.rows:=⟨_,rfl⟩
  have htB:tcB t f g = .cells [.str t.name,.lst 1 f (t.attrs.map V.str),.lst 2 g (R.map encRw)]:=by rw [hR]; rfl
  rw [←hR] at hE hn
  obtain ⟨n,hnn⟩:∃n,n=m+X.length:=⟨_,rfl⟩
  refine conH_cutZ ?_ (by simp [rb,rb1]) ⟨by simp [hKl],rbs_of (hKl _) (hKr _) hX⟩
  obtain ⟨J,hJ⟩:∃J:List (List Int)→List B,J=fun o=>K o++X:=⟨_,rfl⟩
  have hJo:∀o,K o++X=J o:=fun o=>by rw [hJ]
  have hJl:∀o,(J o).length=n:=fun o=>by rw [←hJo,List.length_append,hKl,hnn]
  have hJr:∀o,∀bl∈J o,rbB n bl:=fun o=>by rw [←hJl o,←hJo]; exact rbs_of (hKl _) (hKr _) hX
  have hfn:rb n fv:=rbM2 (by omega) hfv
  have hf2:rb (n+2) fv:=rbM2 (by omega) hfn
  rw [hJo,hJo]
  have g0:=fun o=>app0 (hJl o)
  have g1:=fun o=>app1 (hJl o)
  have g2:=fun o=>app2 (hJl o)
  obtain ⟨tc,htc⟩:∃tc,tc=B.cells [.str t.name,.lst 1 f (t.attrs.map V.str),.lst 2 g (R.map encRw)]:=⟨_,rfl⟩
  obtain ⟨dc,hdc⟩:∃dc,dc=B.cells [.int .i64 d.vars,.lst 11 f2 (d.atoms.map encAt)]:=⟨_,rfl⟩
  have htr:∀n,rbB n tc:=fun n=>by rw [htc,←htB]; exact tcB_rb _ _ _ _
  have hdr:∀n,rbB n dc:=fun n=>by rw [hdc]; exact dcB_rb _ _ _
  have hrb2:∀o,∀bl∈J o++[tc,dc],rbB (J o++[tc,dc]).length bl:=fun o=>rbs_of (hJl o) (hJr o) (fun bl hbl=>by
   simp only [List.mem_cons,List.not_mem_nil,or_false] at hbl
   rcases hbl with rfl | rfl
   ·exact htr _
   ·exact hdr _)
  have hrb3:∀o r,∀bl∈J o++[tc,dc,rcB r],rbB (J o++[tc,dc,rcB r]).length bl:=fun o r=>rbs_of (hJl o) (hJr o) (fun bl hbl=>by
   simp only [List.mem_cons,List.not_mem_nil,or_false] at hbl
   rcases hbl with rfl | rfl | rfl
   ·exact htr _
   ·exact hdr _
   ·exact rcB_rb _ _)
  refine conH_of_W tok Tryz.func194 rfl rfl ?_
  refine wx ?_
  simp -implicitDefEqProofs -dsimp [Tryz.f194,List.replicate,encTb,LR,LS,encDn,LA,hpn,hJl,g0,g1,hR.symm]
  rw [←htc,←hdc]
  have g3:=fun o=>app3 (hJl o)
  have hset:=fun o=>set3 (hJl o)
  rw [←hR] at ho ih
  have ho':o.length+(R.length - 0)*R.length^k<20000:=by rw [Nat.sub_zero,Nat.mul_comm,←Nat.pow_succ]; exact ho
  have hpk:0≤R.length^k:=Nat.zero_le _
  refine lw_of (W_loopM 47 [8,10,29,30,31,32,33,34,35,36,37,38,39,40,41,42,43,44,45,46] (by simp [mB]<;>rfl) (σ:=Nat×List (List Int)) (fun q=>(R.drop q.1).foldl (fun o r=>if usedR p r then o else visF d R k (p++[r]) o) q.2=E∧q.2.length+(R.length - q.1)*R.length^k<20000∧∀l∈q.2,l.length=d.vars.toNat) (fun q=>R.length - q.1) (fun q=>[(29,.int .i64 q.1)]) (fun q=>J q.2++[tc,dc]) (0,o) ⟨hE.symm,ho',hoL⟩ (by simp) (by simp) (by simp [hJl]) ?_)
  rintro ⟨i,o2⟩ ⟨hx,hlt,hL2⟩ N Q hN hQ
  simp only at hx hlt hL2
  by_cases hb:i<R.length
  ·rw [List.drop_eq_getElem_cons hb,List.foldl_cons] at hx
   have hrm:=List.getElem_mem hb
   obtain ⟨r,hre⟩:∃r,r=R[i]:=⟨_,rfl⟩
   rw [←hre] at hx hrm
   have hmul:(R.length - i)*R.length^k=(R.length - (i+1))*R.length^k+R.length^k:=by rw [show R.length - i=(R.length - (i+1))+1 by omega,Nat.succ_mul]
   rw [hmul] at hlt
   have hc:=cont_R (J o2++[tc,dc,rcB r]) (.fn 244 [.ptr (n+2) 0]) (fun x=>x.id == r.id) p fl (by omega) (hrb3 o2 r) (by simp [rb,rb1,hJl]) (fun x _=>same_u _ _ r (g2 o2 tc dc (rcB r) []) (hrb3 o2 r) x)
   rw [show (p.any fun x=>x.id == r.id)=usedR p r from rfl] at hc
   simp only [LR,rcB] at hc
   cases hu:usedR p r with
   | true =>
    rw [hu] at hc hx
    rw [if_pos rfl] at hx
    refine wx ?_
    simp -implicitDefEqProofs -dsimp [hb,hre.symm,encRw,LV,hJl,g0,g1]
    refine WCall.mono (K:=fun r' H'=>r' = .bool true∧H'=J o2++[tc,dc,B.cells [.int .i64 r.id,.lst 3 false (r.vals.map encV)]]) hc ?_
    rintro r' H' ⟨rfl,rfl⟩
    simp -implicitDefEqProofs -dsimp [wrapS i (by omega)]
    refine hN (i+1,o2) _ _ ⟨hx,by simp only; omega,hL2⟩ (by simp only; omega) (by simp) ⟨[B.cells [.int .i64 r.id,.lst 3 false (r.vals.map encV)]],by simp⟩ (by simp [hJl]; exact hf2) (hrb2 _)
   | false =>
    rw [hu] at hc hx
    rw [if_neg (by simp)] at hx
    obtain ⟨o3,ho3⟩:∃o3,o3=visF d R k (p++[r]) o2:=⟨_,rfl⟩
    have hvl:=visF_len (d:=d) (R:=R) k (p++[r]) o2
    have hL3:∀l∈o3,l.length=d.vars.toNat:=fun l hl=>by
     rw [ho3] at hl
     rcases (visF_mem _ _ _ _).1 hl with h | ⟨q,h1,_,_,h4⟩
     ·exact hL2 l h
     ·rw [h4,srt_len,idsR_len,List.length_append,List.length_append,h1]; simp; omega
    rw [←ho3] at hx hvl
    have hge:o2.length+R.length^k<20000:=by omega
    have hv:=ih (p++[r]) (X++[tc,dc,rcB r,.buf 80 2 ((p++[r]).map encRw) true]) o2 false (by simp; omega) (fun x hx=>by
     rcases List.mem_append.1 hx with h | h
     ·rw [hR]; exact hp x h
     ·simp at h; subst h; exact hrm) (fun bl hbl=>by
     rcases List.mem_append.1 hbl with h | h
     ·exact rbB_le2 (by simp<;>omega) (hX bl h)
     ·simp only [List.mem_cons,List.not_mem_nil,or_false] at h
      rcases h with rfl | rfl | rfl | rfl
      ·exact htr _
      ·exact hdr _
      ·exact rcB_rb _ _
      ·exact rows_rb2 _ _ _ _) hge hL2
    rw [←ho3,←List.append_assoc,←List.append_assoc,hJo,hJo] at hv
    have hset2:=hset o2 tc dc (rcB r) (.buf 80 2 ((p++[r]).map encRw) false) (.buf 80 2 ((p++[r]).map encRw) true)
    rw [←hset2] at hv
    have hw:=conH_frz (args:=[encTb f g t,encDn f2 d,.buf (n+3) 0 (p.length+1) (p.length+1),fv]) (n+3) (g3 o2 tc dc (rcB r) (.buf 80 2 ((p++[r]).map encRw) false) []) hv (by simp [LR])
    have cc:=cloneO_R p fl (by omega)
    simp only [encTb,LR,LS,encDn,LA,←hR,rcB] at hw cc
    refine wx ?_
    simp -implicitDefEqProofs -dsimp [hb,hre.symm,encRw,LV,hJl,g0,g1]
    refine WCall.mono (K:=fun r' H'=>r' = .bool false∧H'=J o2++[tc,dc,B.cells [.int .i64 r.id,.lst 3 false (r.vals.map encV)]]) hc ?_
    rintro r' H' ⟨rfl,rfl⟩
    simp -implicitDefEqProofs -dsimp []
    have hset3:∀o b x y,(J o++[tc,dc,b,x]).set (n+3) y=J o++[tc,dc,b,y]:=fun o b x y=>hset o tc dc b x y
    refine lw_of (W_drawT tok mixed [3,6,8] [(0,[1,2]),(1,[1,2]),(4,[0]),(5,[0])] [(.buf (n+3) 0 p.length p.length,J o2++[tc,dc,B.cells [.int .i64 r.id,.lst 3 false (r.vals.map encV)],.buf 80 2 (p.map encRw) false]),(.bool true,J o3++[tc,dc,B.cells [.int .i64 r.id,.lst 3 false (r.vals.map encV)],.buf 80 2 ((p++[r]).map encRw) true])] (by kernel_rfl) fun C K hC hK=>?_)
    simp -implicitDefEqProofs [htc,hdc,hJl,g0,g1,g2,g3,hset,encRw,LV,capRw p.length (by omega),wrapN p.length (by omega)]
    simp only [htc,hdc,List.map_append,List.map_cons,List.map_nil,encRw,LV] at hw
    refine ⟨⟨hC _ _ _ _ ?_,hC _ _ _ _ ?_⟩,hK _ _ ?_⟩
    ·refine (callO cc (by simp)).mono ?_
     rintro r' H' ⟨e,z,xs,rfl,rfl,_,rfl,rfl,rfl⟩
     exact ⟨by simp [hJl],by simp⟩
    ·simp only [WCall,List.append_nil]
     exact hw
    ·simp -implicitDefEqProofs -dsimp [wrapS i (by omega)]
     refine hN (i+1,o3) _ _ ⟨hx,by simp only; omega,hL3⟩ (by simp only; omega) (by simp) ⟨[B.cells [.int .i64 r.id,.lst 3 false (r.vals.map encV)],.buf 80 2 ((p++[r]).map encRw) true],by simp [htc,hdc,encRw,LV]⟩ (by simp [hJl]; exact hf2) (hrb2 _)
  ·rw [List.drop_of_length_le (show R.length≤i by omega)] at hx
   have hx2:o2=E:=hx
   subst hx2
   refine wx ?_
   simp -implicitDefEqProofs -dsimp [hb]
   refine hQ _ _ _ ?_
   simp -implicitDefEqProofs -dsimp []
section
theorem getZ {α:Type} (l:List α) {i:Nat} (d:α) (h:i<l.length):l.getD i d=l[i]:=by simp [List.getD,h]
theorem rbsZ {H:List B} {k:Nat} {b:B} (hH:∀bl∈H,rbB H.length bl) (hb:rbB H.length b):∀bl∈H.set k b,rbB (H.set k b).length bl:=fun bl h=>by
 rw [List.length_set]
 rcases List.mem_or_eq_of_mem_set h with h | rfl
 ·exact hH bl h
 ·exact hb
theorem wcZ {P:Program} {f:FuncId} {args:List V} {H:List B} {K K':V→List B→Prop} (h:ConH P f args H K) (hk:∀r H',K r H'→K' r H'):WCall P (.fn f []) args H K':=by
 simp only [WCall,List.append_nil]
 exact h.mono hk
theorem wrapZ (n:Nat) (h:n<9223372036854775807):IntKind.i64.wrap (n:Int)=n:=wrap64 (by omega) (by omega)
def nzL (m:List Int):List V:=m.map encI
theorem nzL_len (m:List Int):(nzL m).length=m.length:=by simp [nzL]
theorem nzL_get {m:List Int} {x:Nat} (h:x<(nzL m).length):(nzL m)[x] = .int .i64 (m.getD x 0):=by
 have h2:x<m.length:=by rw [←nzL_len]; exact h
 simp [nzL,encI,h2]
theorem nzL_set (m:List Int) (x:Nat) (v:Int):(nzL m).set x (.int .i64 v)=nzL (m.set x v):=by
 unfold nzL
 rw [List.map_set]; rfl
theorem nzL_pure (m:List Int):∀x∈nzL m,AM.Pure x∧oneV x=true:=by simp [nzL,encI,oneV]
def swpZ (j:Nat) (l:List Int):List Int:=(l.set (j+1) (l.getD j 0)).set j (l.getD (j+1) 0)
def sinkZ (lt:Int→Int→Bool):Nat→List Int→List Int
 | 0,l=>l
 | j+1,l=>if lt (l.getD (j+1) 0) (l.getD j 0)=true then sinkZ lt j (swpZ j l) else l
def isZ (lt:Int→Int→Bool):Nat→Nat→List Int→List Int
 | 0,_,l=>l
 | r+1,i,l=>isZ lt r (i+1) (sinkZ lt i l)
theorem swpZ_len (j:Nat) (l:List Int):(swpZ j l).length=l.length:=by simp [swpZ]
theorem swpZ_perm (j:Nat) (l:List Int) (h:j+1<l.length):(swpZ j l).Perm l:=by
 unfold swpZ
 rw [getZ l 0 h,getZ l 0 (show j<l.length by omega)]
 exact List.set_set_perm h (by omega)
theorem sinkZ_perm (lt:Int→Int→Bool):∀(j:Nat) (l:List Int),j<l.length→(sinkZ lt j l).Perm l
 | 0,l,_=>.refl _
 | j+1,l,h=>by
  rw [sinkZ]
  split
  ·exact (sinkZ_perm lt j (swpZ j l) (by rw [swpZ_len]; omega)).trans (swpZ_perm j l h)
  ·exact .refl _
theorem isZ_perm (lt:Int→Int→Bool):∀(r i:Nat) (l:List Int),i+r≤l.length→(isZ lt r i l).Perm l
 | 0,_,l,_=>.refl _
 | r+1,i,l,h=>by
  rw [isZ]
  have h1:=sinkZ_perm lt i l (by omega)
  exact (isZ_perm lt r (i+1) _ (by rw [h1.length_eq]; omega)).trans h1
def inzZ (x:Int):List Int→List Int
 | []=>[x]
 | y::rp=>if x<y then inzZ x rp++[y] else rp.reverse++[y,x]
def ltZ (a b:Int):Bool:=decide (a<b)
theorem sinkZ_ins (x:Int):∀(rp post:List Int),sinkZ ltZ rp.length (rp.reverse++x::post)=inzZ x rp++post
 | [],post=>rfl
 | y::rp,post=>by
  have e:(y::rp).reverse++x::post=rp.reverse++y::x::post:=by simp
  rw [e,List.length_cons,sinkZ,inzZ]
  have g1:(rp.reverse++y::x::post).getD (rp.length+1) 0=x:=by
   simp [List.getD,List.getElem?_append_right]
  have g2:(rp.reverse++y::x::post).getD rp.length 0=y:=by
   simp [List.getD,List.getElem?_append_right]
  have g3:swpZ rp.length (rp.reverse++y::x::post)=rp.reverse++x::y::post:=by
   unfold swpZ
   rw [g1,g2,List.set_append_right _ _ (by simp),List.set_append_right _ _ (by simp)]
   simp
  rw [g1,g2,g3]
  by_cases h:x<y
  ·rw [if_pos (by simp [ltZ,h]),if_pos h,sinkZ_ins x rp (y::post)]; simp
  ·rw [if_neg (by simp [ltZ,h]),if_neg h]; simp
theorem inzZ_mem (x:Int):∀(rp:List Int) (z:Int),z∈inzZ x rp↔z=x∨z∈rp
 | [],z=>by simp [inzZ]
 | y::rp,z=>by
  rw [inzZ]
  split
  ·rw [List.mem_append,List.mem_singleton,List.mem_cons,inzZ_mem x rp z]
   constructor
   ·rintro ((h | h) | h)
    ·exact .inl h
    ·exact .inr (.inr h)
    ·exact .inr (.inl h)
   ·rintro (h | h | h)
    ·exact .inl (.inl h)
    ·exact .inr h
    ·exact .inl (.inr h)
  ·simp only [List.mem_append,List.mem_reverse,List.mem_cons,List.not_mem_nil,or_false]
   constructor
   ·rintro (h | h | h)<;>simp [h]
   ·rintro (h | h | h)<;>simp [h]
theorem inzZ_sorted (x:Int):∀rp:List Int,rp.reverse.Pairwise (·≤·)→(inzZ x rp).Pairwise (·≤·)
 | [],_=>by simp [inzZ]
 | y::rp,h=>by
  rw [List.reverse_cons,List.pairwise_append] at h
  obtain ⟨h1,_,h3⟩:=h
  rw [inzZ]
  split
  ·rename_i hx
   rw [List.pairwise_append]
   refine ⟨inzZ_sorted x rp h1,by simp,fun a ha b hb=>?_⟩
   rw [List.mem_singleton] at hb
   subst hb
   rcases (inzZ_mem x rp a).1 ha with rfl | ha
   ·omega
   ·exact h3 a (by simpa using ha) b (by simp)
  ·rename_i hx
   rw [List.pairwise_append]
   refine ⟨h1,by simp; omega,fun a ha b hb=>?_⟩
   have:=h3 a ha y (by simp)
   simp at hb
   rcases hb with rfl | rfl<;>omega
theorem isZ_sorted:∀(r i:Nat) (l:List Int),i+r=l.length→(l.take i).Pairwise (·≤·)→(isZ ltZ r i l).Pairwise (·≤·)
 | 0,i,l,h,hs=>by
  rw [isZ]
  rwa [List.take_of_length_le (by omega)] at hs
 | r+1,i,l,h,hs=>by
  rw [isZ]
  have hi:i<l.length:=by omega
  have e:l=(l.take i).reverse.reverse++l[i]::l.drop (i+1):=by
   rw [List.reverse_reverse,←List.drop_eq_getElem_cons hi,List.take_append_drop]
  have hl:(l.take i).reverse.length=i:=by simp; omega
  have hk:=sinkZ_ins l[i] (l.take i).reverse (l.drop (i+1))
  rw [hl,←e] at hk
  have hin:(inzZ l[i] (l.take i).reverse).length=i+1:=by
   have h1:=(sinkZ_perm ltZ i l hi).length_eq
   rw [hk,List.length_append,List.length_drop] at h1
   omega
  refine isZ_sorted r (i+1) _ (by rw [(sinkZ_perm ltZ i l hi).length_eq]; omega) ?_
  rw [hk,List.take_left' hin]
  exact inzZ_sorted _ _ (by rwa [List.reverse_reverse])
section
variable {H:List B} {k:Nat}
def SZ (H:List B) (k:Nat) (l:List Int):List B:=H.set k (.buf 2 1 (nzL l) false)
theorem SZ_at {H:List B} {k:Nat} (h:k<H.length) (l:List Int):(SZ H k l)[k]?=some (.buf 2 1 (nzL l) false):=by
 unfold SZ; rw [List.getElem?_set_self h]
theorem SZ_set (H:List B) (k:Nat) (l l':List Int):(SZ H k l).set k (.buf 2 1 (nzL l') false)=SZ H k l':=by
 unfold SZ; rw [List.set_set]
theorem SZ_len (H:List B) (k:Nat) (l:List Int):(SZ H k l).length=H.length:=by simp [SZ]
theorem SZ_rb {H:List B} (hH:∀bl∈H,rbB H.length bl) (k:Nat) (l:List Int):∀bl∈SZ H k l,rbB (SZ H k l).length bl:=rbsZ hH ((rbB_buf1 (nzL_pure l)).2 trivial)
theorem nan_Z (x:Int):ConP Tryz.prog 139 [.int .i64 x] fun r=>r = .bool false:=by
 refine conP_of_conH (conH_of_W tok Tryz.func139 rfl rfl ?_)
 refine wx ?_
 simp -implicitDefEqProofs -dsimp [Tryz.f139,List.replicate]
theorem less_Z (a b:Int):ConP Tryz.prog 81 [.int .i64 a,.int .i64 b] fun r=>r = .bool (ltZ a b):=by
 unfold ltZ
 by_cases h:a<b
 ·rw [decide_eq_true h]
  refine conP_of_conH (conH_of_W tok Tryz.func81 rfl rfl ?_)
  refine wx ?_
  simp -implicitDefEqProofs -dsimp [Tryz.f81,List.replicate]
  refine (callP (nan_Z a) (by simp)).mono ?_
  rintro r H' ⟨rfl,rfl⟩
  simp -implicitDefEqProofs -dsimp [h]
 ·rw [decide_eq_false h]
  refine conP_of_conH (conH_of_W tok Tryz.func81 rfl rfl ?_)
  refine wx ?_
  simp -implicitDefEqProofs -dsimp [Tryz.f81,List.replicate]
  refine (callP (nan_Z a) (by simp)).mono ?_
  rintro r H' ⟨rfl,rfl⟩
  simp -implicitDefEqProofs -dsimp [h]
theorem insOrdZ_h (hk:k<H.length) (hH:∀bl∈H,rbB H.length bl) (l:List Int) (n:Nat) (hn:l.length=n) (hn2:n≤1000000) :
  ConH Tryz.prog 159 [.buf k 0 n n,.int .i64 0,.int .i64 n] (SZ H k l) fun _ H'=>H'=SZ H k (isZ ltZ (n - 1) 1 l):=by
 obtain ⟨S,hS⟩:∃S,S=isZ ltZ (n - 1) 1 l:=⟨_,rfl⟩
 rw [←hS]
 have w1:IntKind.i64.wrap (1:Int)=1:=wrap64 (by omega) (by omega)
 refine conH_of_W tok Tryz.func159 rfl rfl ?_
 refine wx ?_
 simp -implicitDefEqProofs -dsimp [Tryz.f159,List.replicate,w1]
 refine lw_of (W_loopM 49 [6,7,10,11,12,13,14,15,16,17,18,19,20,21,22,23,24,25,26,27,28,29,30,31,32,33,34,35,36,37,38,39,40,41,42,43,44,45,46,47,48] (by simp [mB]<;>rfl) (σ:=Nat×List Int) (fun p=>1≤p.1∧p.1≤n+1∧p.2.length=n∧isZ ltZ (n - p.1) p.1 p.2=S) (fun p=>n+1 - p.1) (fun p=>[(6,.int .i64 p.1)]) (fun p=>SZ H k p.2) (1,l) ⟨by simp,by simp,hn,hS.symm⟩ (by simp) (by simp) (by simp [SZ_len]) ?_)
 rintro ⟨i,l1⟩ ⟨hi,hi2,hl1,hx⟩ N Q hN hQ
 simp only at hi hi2 hl1 hx hN
 by_cases hb:i<n
 ·rw [show n - i=(n - (i+1))+1 by omega,isZ] at hx
  refine wx ?_
  simp -implicitDefEqProofs -dsimp [hb]
  refine lw_of (W_loopM 49 [7,16,17,18,19,20,21,22,23,24,25,26,27,28,29,30,31,32,33,34,35,36,37,38,39,40,41,42,43,44,45,46,47,48] (by simp [mB]<;>rfl) (σ:=Nat×List Int) (fun p=>p.1≤i∧p.2.length=n∧sinkZ ltZ p.1 p.2=sinkZ ltZ i l1) (fun p=>p.1) (fun p=>[(7,.int .i64 p.1)]) (fun p=>SZ H k p.2) (i,l1) ⟨by simp,hl1,rfl⟩ (by simp) (by simp) (by simp [SZ_len]) ?_)
  rintro ⟨j,l2⟩ ⟨hj,hl2,hy⟩ N2 Q2 hN2 hQ2
  simp only at hj hl2 hy hN2
  have g9:=SZ_at hk l2
  have hnl:=nzL_len l2
  cases j with
  | zero =>
   rw [sinkZ] at hy
   refine wx ?_
   simp -implicitDefEqProofs -dsimp []
   refine .inr ⟨stop_of (by kernel_rfl),?_⟩
   refine hQ2 _ _ _ ?_
   simp -implicitDefEqProofs -dsimp [wrapS i (by omega)]
   refine hN (i+1,l2) _ _ ⟨by simp only; omega,by simp only; omega,hl2,by rw [hy]; exact hx⟩ (by simp only; omega) (by simp) ⟨[],by simp⟩ (by simp [SZ_len]; exact hk) (SZ_rb hH k l2)
  | succ j =>
   rw [sinkZ] at hy
   have a1:=fun h=>nzL_get (m:=l2) (x:=j+1) h
   have a0:=fun h=>nzL_get (m:=l2) (x:=j) h
   have wj:IntKind.i64.wrap (((j:Int)+1) - 1)=(j:Int):=by rw [wrap64 (by omega) (by omega)]; omega
   have wj2:IntKind.i64.wrap (j:Int)=(j:Int):=wrapZ j (by omega)
   have hj1:j+1<n:=by omega
   have hj0:j<n:=by omega
   obtain ⟨x,hxx⟩:∃x,x=l2.getD (j+1) 0:=⟨_,rfl⟩
   obtain ⟨y,hyy⟩:∃y,y=l2.getD j 0:=⟨_,rfl⟩
   rw [←hxx,←hyy] at hy
   rw [←hxx] at a1
   rw [←hyy] at a0
   have cl:=less_Z x y
   cases hq:ltZ x y with
   | true =>
    rw [hq] at cl
    rw [if_pos hq] at hy
    refine wx ?_
    simp -implicitDefEqProofs -dsimp [g9,hnl,hl2,hj1,hj0,a1,a0,wj,wj2,show (0:Int)≤(j:Int)+1 by omega,show (j:Int)+1<(n:Int) by omega]
    refine .inr ⟨stop_of (by kernel_rfl),?_⟩
    refine cy_of _ (callP (cl) (by simp)) ?_
    simp -implicitDefEqProofs -dsimp []
    have hsw:swpZ j l2=(l2.set (j+1) y).set j x:=by unfold swpZ; rw [←hxx,←hyy]
    have hst1:(nzL l2).set (j+1) (.int .i64 y)=nzL (l2.set (j+1) y):=nzL_set l2 (j+1) y
    have hst2:(nzL (l2.set (j+1) y)).set j (.int .i64 x)=nzL (swpZ j l2):=by rw [hsw]; exact nzL_set _ j x
    have q9:=SZ_at hk (l2.set (j+1) y)
    have qs1:=SZ_set H k l2 (l2.set (j+1) y)
    have qs2:=SZ_set H k (l2.set (j+1) y) (swpZ j l2)
    have qnl:=nzL_len (l2.set (j+1) y)
    rw [List.length_set] at qnl
    have b0:=fun h=>nzL_get (m:=l2.set (j+1) y) (x:=j) h
    refine lw_of (W_drawT tok mixed [15,17] [(2,[1]),(3,[1]),(4,[1])] [] (by kernel_rfl) fun C K hC hK=>?_)
    simp -implicitDefEqProofs [g9,hnl,hl2,hj1,hj0,a1,a0,wj,wj2,hst1,hst2,q9,qs1,qs2,qnl,b0,show (0:Int)≤(j:Int)+1 by omega,show (j:Int)+1<(n:Int) by omega]
    refine hK _ _ ?_
    simp -implicitDefEqProofs -dsimp [wj,wj2]
    refine hN2 (j,swpZ j l2) _ _ ⟨by simp only; omega,by rw [swpZ_len]; exact hl2,hy⟩ (by simp only; omega) (by simp) ⟨[],by simp⟩ (by simp [SZ_len]; exact hk) (SZ_rb hH k _)
   | false =>
    rw [hq] at cl
    rw [if_neg (by rw [hq]; simp)] at hy
    refine wx ?_
    simp -implicitDefEqProofs -dsimp [g9,hnl,hl2,hj1,hj0,a1,a0,wj,wj2,show (0:Int)≤(j:Int)+1 by omega,show (j:Int)+1<(n:Int) by omega]
    refine .inr ⟨stop_of (by kernel_rfl),?_⟩
    refine cy_of _ (callP (cl) (by simp)) ?_
    simp -implicitDefEqProofs -dsimp []
    refine hQ2 _ _ _ ?_
    simp -implicitDefEqProofs -dsimp [wrapS i (by omega)]
    refine hN (i+1,l2) _ _ ⟨by simp only; omega,by simp only; omega,hl2,by rw [hy]; exact hx⟩ (by simp only; omega) (by simp) ⟨[],by simp⟩ (by simp [SZ_len]; exact hk) (SZ_rb hH k l2)
 ·rw [show n - i=0 by omega,isZ] at hx
  subst hx
  refine wx ?_
  simp -implicitDefEqProofs -dsimp [hb]
  refine hQ _ _ _ ?_
  simp -implicitDefEqProofs -dsimp []
end
theorem bitsLenZ (n:Nat) (h:n≤12):∃v:Int,ConP Tryz.prog 105 [.int .u64 (n:Int)] fun r=>r = .int .i64 v :=
 match n,h with
 | 0,_=>⟨0,closed_conT tok mixed named ext_ok (fuel:=1000) (d:=40) (by kernel_rfl) (by simp)⟩
 | 1,_=>⟨1,closed_conT tok mixed named ext_ok (fuel:=1000) (d:=40) (by kernel_rfl) (by simp)⟩
 | 2,_=>⟨2,closed_conT tok mixed named ext_ok (fuel:=1000) (d:=40) (by kernel_rfl) (by simp)⟩
 | 3,_=>⟨2,closed_conT tok mixed named ext_ok (fuel:=1000) (d:=40) (by kernel_rfl) (by simp)⟩
 | 4,_=>⟨3,closed_conT tok mixed named ext_ok (fuel:=1000) (d:=40) (by kernel_rfl) (by simp)⟩
 | 5,_=>⟨3,closed_conT tok mixed named ext_ok (fuel:=1000) (d:=40) (by kernel_rfl) (by simp)⟩
 | 6,_=>⟨3,closed_conT tok mixed named ext_ok (fuel:=1000) (d:=40) (by kernel_rfl) (by simp)⟩
 | 7,_=>⟨3,closed_conT tok mixed named ext_ok (fuel:=1000) (d:=40) (by kernel_rfl) (by simp)⟩
 | 8,_=>⟨4,closed_conT tok mixed named ext_ok (fuel:=1000) (d:=40) (by kernel_rfl) (by simp)⟩
 | 9,_=>⟨4,closed_conT tok mixed named ext_ok (fuel:=1000) (d:=40) (by kernel_rfl) (by simp)⟩
 | 10,_=>⟨4,closed_conT tok mixed named ext_ok (fuel:=1000) (d:=40) (by kernel_rfl) (by simp)⟩
 | 11,_=>⟨4,closed_conT tok mixed named ext_ok (fuel:=1000) (d:=40) (by kernel_rfl) (by simp)⟩
 | 12,_=>⟨4,closed_conT tok mixed named ext_ok (fuel:=1000) (d:=40) (by kernel_rfl) (by simp)⟩
 | n+13,h=>by omega
section
variable {H:List B} {k:Nat}
theorem sortZ_h (hk:k<H.length) (hH:∀bl∈H,rbB H.length bl) (l:List Int) (n:Nat) (hn:l.length=n) (hn2:n≤12) :
  ConH Tryz.prog 60 [.buf k 0 n n] (SZ H k l) fun _ H'=>H'=SZ H k (isZ ltZ (n - 1) 1 l):=by
 obtain ⟨v,hv⟩:=bitsLenZ n hn2
 have c1:=insOrdZ_h hk hH l n hn (by omega)
 have c2:ConH Tryz.prog 104 [.buf k 0 n n,.int .i64 0,.int .i64 n,.int .i64 v] (SZ H k l) fun _ H'=>H'=SZ H k (isZ ltZ (n - 1) 1 l):=by
  have w0:IntKind.i64.wrap (n:Int)=n:=wrapZ n (by omega)
  refine conH_of_W tok Tryz.func104 rfl rfl ?_
  refine wx ?_
  simp -implicitDefEqProofs -dsimp [Tryz.f104,List.replicate]
  refine lw_of (W_loopM 134 [1,2,3,8,9,10,11,12,13,14,15,16,17,18,19,20,21,22,23,24,25,26,27,28,29,30,31,32,33,34,35,36,37,38,39,40,41,42,43,44,45,46,47,48,49,50,51,52,53,54,55,56,57,58,59,60,61,62,63,64,65,66,67,68,69,70,71,72,73,74,75,76,77,78,79,80,81,82,83,84,85,86,87,88,89,90,91,92,93,94,95,96,97,98,99,100,101,102,103,104,105,106,107,108,109,110,111,112,113,114,115,116,117,118,119,120,121,122,123,124,125,126,127,128,129,130,131,132,133] (by simp [mB]<;>rfl) (σ:=Nat) (fun p=>p=0) (fun p=>0) (fun _=>[(8,.bool true),(9,.bool true),(1,.int .i64 0),(2,.int .i64 n),(3,.int .i64 v)]) (fun _=>SZ H k l) 0 rfl (by simp) (by simp) (by simp) ?_)
  rintro p rfl N Q hN hQ
  refine wx ?_
  simp -implicitDefEqProofs -dsimp [w0,show (n:Int)≤12 by omega,show n≤12 by omega]
  refine wcZ c1 ?_
  rintro _ _ rfl
  simp -implicitDefEqProofs -dsimp []
  refine hQ _ _ _ ?_
  simp -implicitDefEqProofs -dsimp []
 have wu:IntKind.u64.wrap (n:Int)=(n:Int):=by rw [IntKind.wrap_u64]; omega
 have g9:=SZ_at hk l
 have hnl:=nzL_len l
 refine conH_of_W tok Tryz.func60 rfl rfl ?_
 refine wx ?_
 simp -implicitDefEqProofs -dsimp [Tryz.f60,List.replicate,g9,hnl,hn,wu]
 refine (callP hv (by simp)).mono ?_
 rintro r H' ⟨rfl,rfl⟩
 simp -implicitDefEqProofs -dsimp []
 refine wcZ c2 ?_
 rintro _ _ rfl
 simp -implicitDefEqProofs -dsimp []
end
end
section
def key3 (l:List Int):V:=.agg [.int .i64 (l.getD 0 0),.int .i64 (l.getD 1 0),.int .i64 (l.getD 2 0)]
def mK (o:List (List Int)):List (V×V):=o.map fun l=>(key3 l,.bool true)
theorem mK_snoc (o:List (List Int)) (l:List Int):mK (o++[l])=mK o++[(key3 l,.bool true)]:=by simp [mK]
theorem key3_eq {a b:List Int} (h:a.length=b.length) (h3:a.length≤3):keyEqA (key3 a) (key3 b)=(a == b):=by
 match a,b,h,h3 with
 | [],[],_,_=>rfl
 | [x],[y],_,_=>simp [key3,keyEqA,eqIs]
 | [x,x2],[y,y2],_,_=>simp [key3,keyEqA,eqIs]
 | [x,x2,x3],[y,y2,y3],_,_=>simp [key3,keyEqA,eqIs]
theorem findK_no {m:Nat} {x:List Int} (hx:x.length=m) (hm:m≤3):∀(o:List (List Int)) (i:Nat),(∀l∈o,l.length=m)→x∉o→findA (key3 x) (mK o) i=none
 | [],_,_,_=>rfl
 | l::o,i,h,hn=>by
  have h1:=key3_eq (a:=x) (b:=l) (by rw [hx,h l (by simp)]) (by omega)
  have hne:¬x=l:=fun e=>hn (by rw [e]; simp)
  have h2:(x == l)=false:=by simpa using hne
  show (if keyEqA (key3 x) (key3 l)=true then some (i,V.bool true) else findA (key3 x) (mK o) (i+1))=none
  rw [h1,h2,if_neg (by simp)]
  exact findK_no hx hm o (i+1) (fun l' hl=>h l' (by simp [hl])) (fun e=>hn (by simp [e]))
theorem findK_yes {m:Nat} {x:List Int} (hx:x.length=m) (hm:m≤3):∀(o:List (List Int)) (i:Nat),(∀l∈o,l.length=m)→x∈o→∃j,findA (key3 x) (mK o) i=some (j,.bool true)∧i≤j∧o[j - i]?=some x
 | [],_,_,h=>by cases h
 | l::o,i,h,hn=>by
  have h1:=key3_eq (a:=x) (b:=l) (by rw [hx,h l (by simp)]) (by omega)
  by_cases he:x=l
  ·subst he
   refine ⟨i,?_,Nat.le_refl _,by simp⟩
   show (if keyEqA (key3 x) (key3 x)=true then some (i,V.bool true) else findA (key3 x) (mK o) (i+1))=_
   rw [h1,beq_self_eq_true,if_pos rfl]
  ·have h2:(x == l)=false:=by simpa using he
   obtain ⟨j,hj,hij,hg⟩:=findK_yes hx hm o (i+1) (fun l' hl=>h l' (by simp [hl])) (by
    rcases List.mem_cons.1 hn with e | e
    ·exact absurd e he
    ·exact e)
   refine ⟨j,?_,by omega,?_⟩
   ·show (if keyEqA (key3 x) (key3 l)=true then some (i,V.bool true) else findA (key3 x) (mK o) (i+1))=_
    rw [h1,h2,if_neg (by simp)]
    exact hj
   ·rw [show j - i=(j - (i+1))+1 by omega,List.getElem?_cons_succ]; exact hg
theorem mK_rb (n:Nat) (kk:KK) (o:List (List Int)):rbB n (.map kk (mK o)):=fun p hp=>by
 obtain ⟨x,_,rfl⟩:=List.mem_map.1 hp
 refine ⟨?_,by simp [rb,rb1]⟩
 intro c hc
 simp only [List.mem_cons,List.not_mem_nil,or_false] at hc
 rcases hc with rfl | rfl | rfl<;>simp [rb1]
def VK (tB dB:B) (μ:List (V×V)) (c:V) (xs:List V):List B:=[tB,dB,.map (.arr 3) μ,.cells [.map 2],.cells [c],.buf 34 1 xs false]
def VO (tB dB:B) (o:List (List Int)):List B:=VK tB dB (mK o) (.buf 5 0 o.length o.length) (o.map (L1 false))
theorem VO_rb {tB dB:B} (ht:∀n,rbB n tB) (hd:∀n,rbB n dB) (o:List (List Int)):∀bl∈VO tB dB o,rbB 6 bl:=fun bl hbl=>by
 unfold VO VK at hbl
 simp only [List.mem_cons,List.not_mem_nil,or_false] at hbl
 rcases hbl with rfl | rfl | rfl | rfl | rfl | rfl
 ·exact ht _
 ·exact hd _
 ·exact mK_rb _ _ _
 ·intro c hc; simp at hc; subst hc; simp [rb,rb1]
 ·intro c hc; simp at hc; subst hc; simp [rb,rb1]
 ·exact LF_rb _ _ _
section
variable {tB dB:B} {μ:List (V×V)} {c:V} {xs:List V}
theorem vk2 (l:List B):(VK tB dB μ c xs++l)[2]?=some (.map (.arr 3) μ):=rfl
theorem vk3 (l:List B):(VK tB dB μ c xs++l)[3]?=some (.cells [.map 2]):=rfl
theorem vk4 (l:List B):(VK tB dB μ c xs++l)[4]?=some (.cells [c]):=rfl
theorem vk5 (l:List B):(VK tB dB μ c xs++l)[5]?=some (.buf 34 1 xs false):=rfl
theorem vs2 (l:List B) (μ':List (V×V)):(VK tB dB μ c xs++l).set 2 (.map (.arr 3) μ')=VK tB dB μ' c xs++l:=rfl
theorem vs4 (l:List B) (c':V):(VK tB dB μ c xs++l).set 4 (.cells [c'])=VK tB dB μ c' xs++l:=rfl
theorem vs5 (l:List B) (xs':List V):(VK tB dB μ c xs++l).set 5 (.buf 34 1 xs' false)=VK tB dB μ c xs'++l:=rfl
theorem vt2 (μ':List (V×V)):(VK tB dB μ c xs).set 2 (.map (.arr 3) μ')=VK tB dB μ' c xs:=rfl
theorem vt4 (c':V):(VK tB dB μ c xs).set 4 (.cells [c'])=VK tB dB μ c' xs:=rfl
theorem vt5 (xs':List V):(VK tB dB μ c xs).set 5 (.buf 34 1 xs' false)=VK tB dB μ c xs':=rfl
theorem vkl:(VK tB dB μ c xs).length=6:=rfl
theorem vx0 {X:List B} {n:Nat} (h:n=6+X.length) (b:B) (l:List B):(VK tB dB μ c xs++(X++b::l))[n]?=some b:=by
 rw [←List.append_assoc]
 exact app0 (by rw [List.length_append,vkl,h]) b l
theorem vx1 {X:List B} {n:Nat} (h:n=6+X.length) (a b:B) (l:List B):(VK tB dB μ c xs++(X++a::b::l))[n+1]?=some b:=by
 rw [←List.append_assoc]
 exact app1 (by rw [List.length_append,vkl,h]) a b l
theorem vxs0 {X:List B} {n:Nat} (h:n=6+X.length) (b b':B) (l:List B):(VK tB dB μ c xs++(X++b::l)).set n b'=VK tB dB μ c xs++(X++b'::l):=by
 rw [←List.append_assoc,←List.append_assoc,List.set_append_right _ _ (by rw [List.length_append,vkl,h]; omega)]
 simp [vkl,h]
theorem vxs1 {X:List B} {n:Nat} (h:n=6+X.length) (a b b':B) (l:List B):(VK tB dB μ c xs++(X++a::b::l)).set (n+1) b'=VK tB dB μ c xs++(X++a::b'::l):=by
 rw [←List.append_assoc,←List.append_assoc,List.set_append_right _ _ (by rw [List.length_append,vkl,h]; omega)]
 simp [vkl,h]
end
theorem isZ_srt (l:List Int) (h:1≤l.length):isZ ltZ (l.length - 1) 1 l=srt l:=by
 refine srt_eq (isZ_perm _ _ _ _ (by omega)) (isZ_sorted _ _ _ (by omega) ?_)
 match l,h with
 | x::l,_=>simp
theorem list1 {l:List Int} (h:l.length=1):∃a,l=[a]:=by
 match l,h with
 | [a],_=>exact ⟨a,rfl⟩
theorem list2 {l:List Int} (h:l.length=2):∃a b,l=[a,b]:=by
 match l,h with
 | [a,b],_=>exact ⟨a,b,rfl⟩
theorem list3 {l:List Int} (h:l.length=3):∃a b c,l=[a,b,c]:=by
 match l,h with
 | [a,b,c],_=>exact ⟨a,b,c,rfl⟩
theorem back_u (t:Tb) (d:Dn) (tB dB:B) (ht:∀n,rbB n tB) (hd:∀n,rbB n dB) (hv1:1≤d.vars) (hv3:d.vars≤3):Back t d (.fn 195 [.ptr 3 0,.ptr 4 0]) (VO tB dB) 6:=by
 intro X hX rs fl o hrs _ ho hoL
 obtain ⟨n,hn⟩:∃n,n=6+X.length:=⟨_,rfl⟩
 have hXl:∀(μ:List (V×V)) (c:V) (xs:List V),(VK tB dB μ c xs++X).length=n:=fun μ c xs=>by rw [List.length_append,vkl,hn]
 have hrl:rs.length≤3:=by omega
 have hr1:1≤rs.length:=by omega
 obtain ⟨I,hI⟩:∃I,I=idsR rs:=⟨_,rfl⟩
 have hIl:I.length=rs.length:=by rw [hI,idsR_len]
 obtain ⟨S,hS⟩:∃S,S=srt I:=⟨_,rfl⟩
 have hSl:S.length=d.vars.toNat:=by rw [hS,srt_len,hIl,hrs]
 rw [←hI,←hS]
 have x0:=fun μ c xs b l=>vx0 (tB:=tB) (dB:=dB) (μ:=μ) (c:=c) (xs:=xs) hn b l
 have x1:=fun μ c xs a b l=>vx1 (tB:=tB) (dB:=dB) (μ:=μ) (c:=c) (xs:=xs) hn a b l
 have y0:=fun μ c xs b b' l=>vxs0 (tB:=tB) (dB:=dB) (μ:=μ) (c:=c) (xs:=xs) hn b b' l
 have y1:=fun μ c xs a b b' l=>vxs1 (tB:=tB) (dB:=dB) (μ:=μ) (c:=c) (xs:=xs) hn a b b' l
 have hO6:=VO_rb ht hd o
 have hrbx:∀b:B,(∀k,rbB k b)→∀bl∈VO tB dB o++(X++[b]),rbB (VO tB dB o++(X++[b])).length bl:=fun b hb=>by
  rw [←List.append_assoc]
  exact rbs_app2 (rbs_of rfl hO6 hX) (fun bl hbl=>by simp at hbl; subst hbl; exact hb _)
 have hbI:∀(e:Nat) (l:List Int) k,rbB k (.buf e 1 (l.map encI) false):=fun e l k=>(rbB_buf1 (fun x hx=>by obtain ⟨y,_,rfl⟩:=List.mem_map.1 hx; exact ⟨by simp,rfl⟩)).2 trivial
 have hsort:ConH Tryz.prog 60 [.buf n 0 rs.length rs.length] (VO tB dB o++(X++[.buf 2 1 (I.map encI) false])) fun _ H'=>H'=VO tB dB o++(X++[.buf 2 1 (S.map encI) false]):=by
  have h:=sortZ_h (H:=VO tB dB o++(X++[.buf 2 1 (I.map encI) false])) (k:=n) (by unfold VO; simp [vkl,hn]) (hrbx _ (hbI _ _)) I rs.length hIl (by omega)
  rw [←hIl,isZ_srt I (by omega),←hS] at h
  unfold SZ nzL VO at h
  rw [y0,y0] at h
  rw [←hIl]
  exact h
 simp only [WCall,List.cons_append,List.nil_append]
 have hO':∀o',(∀bl∈VO tB dB o',rbB 6 bl):=VO_rb ht hd
 refine conH_cutZ ?_ (by simp [rb,rb1]) ⟨by simp [VO,vkl],rbs_of rfl (hO' _) hX⟩
 refine conH_of_W tok Tryz.func195 rfl rfl ?_
 refine W_seq ?_
 refine wx ?_
 simp -implicitDefEqProofs -dsimp [Tryz.f195,List.replicate,LR]
 refine W_seq ?_
 refine wx ?_
 simp -implicitDefEqProofs -dsimp []
 refine W_seq ?_
 refine wx ?_
 simp -implicitDefEqProofs -dsimp []
 have fl0:(VO tB dB o++X).length=n:=hXl _ _ _
 have fx0:∀b l,(VO tB dB o++(X++b::l))[n]?=some b:=fun b l=>x0 _ _ _ b l
 have fy0:∀b b' l,(VO tB dB o++(X++b::l)).set n b'=VO tB dB o++(X++b'::l):=fun b b' l=>y0 _ _ _ b b' l
 have fl1:(VO tB dB o).length+X.length=n:=by rw [←fl0,List.length_append]
 refine lw_of (W_own 2 1 [5] (by simp) (W_loopM 21 [5,7,11,12,13,14,15,16,17,18,19,20] (by simp [mB]<;>rfl) (σ:=Nat) (fun i=>i≤rs.length) (fun i=>rs.length - i) (fun i=>[(11,.int .i64 i),(5,.buf n 0 i i)]) (fun i=>VO tB dB o++(X++[.buf 2 1 ((I.take i).map encI) false])) 0 (by omega) (by simp [fl1]) (by simp) (by simp) ?_))
 intro i hi N Q hN hQ
 have hti:(I.take i).length=i:=by simp; omega
 by_cases hb:i<rs.length
 ·have hbI2:i<I.length:=by omega
  obtain ⟨r,hre⟩:∃r,r=rs[i]:=⟨_,rfl⟩
  have hIi:I[i]=r.id:=by rw [hre]; simp [hI,idsR]
  have hts:I.take (i+1)=I.take i++[r.id]:=by rw [List.take_succ_eq_append_getElem hbI2,hIi]
  obtain ⟨J,hJ⟩:∃J,J=I.take i:=⟨_,rfl⟩
  rw [←hJ] at hti hts ⊢
  refine wx ?_
  simp -implicitDefEqProofs -dsimp [hb,hre.symm,encRw,LV,fx0,fy0,hti,cap8 i (by omega),wrapS i (by omega),fl1]
  refine hN (i+1) _ _ (by omega) (by omega) (by simp) ⟨[B.cells [.int .i64 r.id,.lst 3 false (r.vals.map encV)]],by simp [hts,encI]⟩ (by simp; omega) (hrbx _ (hbI _ _))
 ·obtain rfl:i=rs.length:=by omega
  rw [show I.take rs.length=I from List.take_of_length_le (by omega)]
  refine wx ?_
  simp -implicitDefEqProofs -dsimp [hb]
  refine hQ _ _ _ ?_
  simp -implicitDefEqProofs -dsimp []
  refine W_seq ?_
  refine wx ?_
  simp -implicitDefEqProofs -dsimp []
  refine wcZ hsort ?_
  rintro _ _ rfl
  simp -implicitDefEqProofs -dsimp []
  have hSr:S.length=rs.length:=by rw [hSl,hrs]
  refine W_frz n [5] (fx0 _ []) (by simp [hSr]) ?_
  rw [fy0]
  have h61:6+(X.length+1)=n+1:=by omega
  have h3:S.length=1∨S.length=2∨S.length=3:=by omega
  by_cases hin:S∈o
  ·obtain ⟨j,hj,_,_⟩:=findK_yes hSl (by omega) o 0 hoL hin
   have hpn:putN o S=o:=by unfold putN; rw [if_pos (by simpa using hin)]
   rw [hpn]
   clear hin hpn hsort hrbx hI hS hSl hSr
   rcases h3 with h3 | h3 | h3
   ·obtain ⟨a,rfl⟩:=list1 h3
    simp [key3] at hj
    refine wx ?_
    simp -implicitDefEqProofs -dsimp [copyA,encI,VO,vk2,vk3,vk4,vk5,x0,x1,y0,y1,hj,vkl,h61,show (o.length:Int)≤20000 by omega]
   ·obtain ⟨a,b,rfl⟩:=list2 h3
    simp [key3] at hj
    refine wx ?_
    simp -implicitDefEqProofs -dsimp [copyA,encI,VO,vk2,vk3,vk4,vk5,x0,x1,y0,y1,hj,vkl,h61,show (o.length:Int)≤20000 by omega]
   ·obtain ⟨a,b,c,rfl⟩:=list3 h3
    simp [key3] at hj
    refine wx ?_
    simp -implicitDefEqProofs -dsimp [copyA,encI,VO,vk2,vk3,vk4,vk5,x0,x1,y0,y1,hj,vkl,h61,show (o.length:Int)≤20000 by omega]
  ·have hj:=findK_no hSl (by omega) o 0 hoL hin
   have hpn:putN o S=o++[S]:=by unfold putN; rw [if_neg (by simpa using hin)]
   rw [hpn]
   clear hin hpn hsort hrbx hI hS hSl hSr
   rcases h3 with h3 | h3 | h3
   ·obtain ⟨a,rfl⟩:=list1 h3
    simp [key3] at hj
    refine wx ?_
    simp -implicitDefEqProofs -dsimp [copyA,encI,VO,vk2,vk3,vk4,vk5,vs2,vs4,vs5,vt2,vt4,vt5,x0,x1,y0,y1,hj,vkl,h61,cap24 o.length (by omega),wrapN o.length (by omega),show (o.length:Int)+1≤20000 by omega]
    exact ⟨_,by simp [VO,mK_snoc,key3,L1,encI]; rfl⟩
   ·obtain ⟨a,b,rfl⟩:=list2 h3
    simp [key3] at hj
    refine wx ?_
    simp -implicitDefEqProofs -dsimp [copyA,encI,VO,vk2,vk3,vk4,vk5,vs2,vs4,vs5,vt2,vt4,vt5,x0,x1,y0,y1,hj,vkl,h61,cap24 o.length (by omega),wrapN o.length (by omega),show (o.length:Int)+1≤20000 by omega]
    exact ⟨_,by simp [VO,mK_snoc,key3,L1,encI]; rfl⟩
   ·obtain ⟨a,b,c,rfl⟩:=list3 h3
    simp [key3] at hj
    refine wx ?_
    simp -implicitDefEqProofs -dsimp [copyA,encI,VO,vk2,vk3,vk4,vk5,vs2,vs4,vs5,vt2,vt4,vt5,x0,x1,y0,y1,hj,vkl,h61,cap24 o.length (by omega),wrapN o.length (by omega),show (o.length:Int)+1≤20000 by omega]
    exact ⟨_,by simp [VO,mK_snoc,key3,L1,encI]; rfl⟩
end
theorem zero_valid:validV zV=true:=by decide +kernel
theorem zeroV_eq {v:Vl} (h:zeroV v=true):v=zV:=(eqVB_iff _ _).1 h
theorem clF_ref (c:Cl) (v:Vl):clF c v=(c.any||decide (cmpV v c.x=0)):=by
 unfold clF
 congr 1
 rw [Bool.eq_iff_iff,eqVB_iff,decide_eq_true_eq,cmpV_zero]
 exact ⟨fun h=>h.symm,fun h=>h.symm⟩
theorem ascI_cons (n r b a:Int) (l:List Int):ascI n r b (a::l)=(decide (b<a)&&(decide (a<n)&&(!decide (a=r)&&ascI n r a l))):=rfl
theorem ascI_ats {n r:Int} : ∀{l:List Int} {b:Int},-1≤b→ascI n r b l=true→∀a∈l,0≤a∧a<n
 | [],_,_,_,a,h=>by cases h
 | x::l,b,hb,h,a,ha=>by
  rw [ascI_cons,Bool.and_eq_true,Bool.and_eq_true,Bool.and_eq_true,decide_eq_true_eq,decide_eq_true_eq] at h
  rcases List.mem_cons.1 ha with rfl | ha
  ·exact ⟨by omega,h.2.1⟩
  ·exact ascI_ats (b:=x) (by omega) h.2.2.2 a ha
theorem valid1C (c:Cl):ConP Tryz.prog 184 [encCl c] fun r=>r = .bool (!clB c):=by
 have cv:=validV_con c.x
 simp only [encV] at cv
 unfold clB zeroV
 cases ha:c.any with
 | true =>
  rw [if_pos rfl]
  have hv:∀b,eqVB ⟨c.x.k,c.x.n,c.x.s⟩ ⟨0,0,ByteArray.empty⟩=b→eqVB c.x ⟨0,0,ByteArray.empty⟩=b:=fun b h=>h
  cases hz:eqVB ⟨c.x.k,c.x.n,c.x.s⟩ ⟨0,0,ByteArray.empty⟩ with
  | true =>
   refine conP_of_conH (conH_of_W tok Tryz.func184 rfl rfl ?_)
   refine wx ?_
   simp -implicitDefEqProofs -dsimp [Tryz.f184,List.replicate,encCl,ha,eqVl,hz]
  | false =>
   refine conP_of_conH (conH_of_W tok Tryz.func184 rfl rfl ?_)
   refine wx ?_
   simp -implicitDefEqProofs -dsimp [Tryz.f184,List.replicate,encCl,ha,eqVl,hz]
 | false =>
  rw [if_neg (by simp)]
  refine conP_of_conH (conH_of_W tok Tryz.func184 rfl rfl ?_)
  refine wx ?_
  simp -implicitDefEqProofs -dsimp [Tryz.f184,List.replicate,encCl,ha]
  refine (callP (cv) (by simp)).mono ?_
  rintro r H' ⟨rfl,rfl⟩
  simp -implicitDefEqProofs -dsimp []
theorem validC_u (n:Nat) (c:Cfd) (f g:Bool) (hn:n≤16) (hl:c.l.length≤1000000) (hp:c.p.length≤1000000):ConP Tryz.prog 128 [.int .i64 n,encCfd f g c] fun r=>r = .bool (cfB n c):=by
 have n1:¬(n:Int)<0:=by omega
 have n2:¬(16:Int)<n:=by omega
 have wl:=wrapS c.l.length (by omega)
 unfold cfB
 by_cases h1:0≤c.r
 case neg =>
  rw [decide_eq_false h1,Bool.false_and]
  refine conP_of_conH (conH_of_W tok Tryz.func128 rfl rfl ?_)
  refine wx ?_
  simp -implicitDefEqProofs -dsimp [Tryz.f128,List.replicate,encCfd,L1,LCl,n1,n2,show c.r<0 by omega]
 rw [decide_eq_true h1,Bool.true_and]
 have h1':¬c.r<0:=by omega
 by_cases h2:c.r<n
 case neg =>
  rw [decide_eq_false h2,Bool.false_and]
  refine conP_of_conH (conH_of_W tok Tryz.func128 rfl rfl ?_)
  refine wx ?_
  simp -implicitDefEqProofs -dsimp [Tryz.f128,List.replicate,encCfd,L1,LCl,n1,n2,h1',show (n:Int)≤c.r by omega]
 rw [decide_eq_true h2,Bool.true_and]
 have h2':¬(n:Int)≤c.r:=by omega
 by_cases h3:c.p.length=c.l.length+1
 case neg =>
  rw [decide_eq_false h3,Bool.false_and]
  refine conP_of_conH (conH_of_W tok Tryz.func128 rfl rfl ?_)
  refine wx ?_
  simp -implicitDefEqProofs -dsimp [Tryz.f128,List.replicate,encCfd,L1,LCl,n1,n2,h1',h2',wl,h3,show ¬(c.p.length:Int)=(c.l.length:Int)+1 by omega]
 rw [decide_eq_true h3,Bool.true_and]
 obtain ⟨E,hE⟩:∃E,E=ascI n c.r (-1) c.l:=⟨_,rfl⟩
 rw [←hE]
 refine conP_of_conH (conH_of_W tok Tryz.func128 rfl rfl ?_)
 refine wx ?_
 simp -implicitDefEqProofs -dsimp [Tryz.f128,List.replicate,encCfd,L1,LCl,n1,n2,h1',h2',wl,h3,show (c.p.length:Int)=(c.l.length:Int)+1 by omega]
 refine lw_of (W_loopM 58 [4,5,7,38,39,40,41,42,43,44,45,46,47,48,49,50,51,52,53,54,55,56,57] (by simp [mB]<;>rfl) (σ:=Nat×Int) (fun p=>ascI n c.r p.2 (c.l.drop p.1)=E) (fun p=>c.l.length - p.1) (fun p=>[(38,.int .i64 p.1),(5,.int .i64 p.2)]) (fun _=>[B.cells [.lst 1 f (c.l.map encI),.int .i64 c.r,.lst 4 g (c.p.map encCl)]]) (0,-1) (by rw [hE]; rfl) (by simp) (by simp) (by simp) ?_)
 rintro ⟨i,b⟩ hx N Q hN hQ
 simp only at hx
 by_cases hi:i<c.l.length
 ·rw [List.drop_eq_getElem_cons hi,ascI_cons] at hx
  obtain ⟨a,ha⟩:∃a,a=c.l[i]:=⟨_,rfl⟩
  rw [←ha] at hx
  by_cases q1:b<a
  case neg =>
   rw [decide_eq_false q1,Bool.false_and] at hx
   refine wx ?_
   simp -implicitDefEqProofs -dsimp [hi,ha.symm,encI,show a≤b by omega]
   refine hQ _ _ _ ?_
   simp -implicitDefEqProofs -dsimp []
   rw [←hx]; simp
  rw [decide_eq_true q1,Bool.true_and] at hx
  by_cases q2:a<n
  case neg =>
   rw [decide_eq_false q2,Bool.false_and] at hx
   refine wx ?_
   simp -implicitDefEqProofs -dsimp [hi,ha.symm,encI,show ¬a≤b by omega,show (n:Int)≤a by omega]
   refine hQ _ _ _ ?_
   simp -implicitDefEqProofs -dsimp []
   rw [←hx]; simp
  rw [decide_eq_true q2,Bool.true_and] at hx
  by_cases q3:a=c.r
  ·rw [decide_eq_true q3,Bool.not_true,Bool.false_and] at hx
   have ha2:c.l[i]=c.r:=ha.symm.trans q3
   refine wx ?_
   simp -implicitDefEqProofs -dsimp [hi,ha2,encI,show ¬c.r≤b by omega,show ¬(n:Int)≤c.r by omega]
   refine hQ _ _ _ ?_
   simp -implicitDefEqProofs -dsimp []
   rw [←hx]; simp
  ·rw [decide_eq_false q3,Bool.not_false,Bool.true_and] at hx
   refine wx ?_
   simp -implicitDefEqProofs -dsimp [hi,ha.symm,encI,show ¬a≤b by omega,show ¬(n:Int)≤a by omega,q3,wrapS i (by omega)]
   refine hN (i+1,a) _ _ hx (by simp only; omega) (by simp) ⟨_,rfl⟩ (by simp [encI]) (by simp [encI])
 ·rw [List.drop_of_length_le (by omega)] at hx
  have hx2:true=E:=hx
  obtain ⟨u,hu⟩:∃u,u=c.p.any fun a=>!clB a:=⟨_,rfl⟩
  have hfin:(!u)=(E&&c.p.all clB):=by rw [hu,any_notA,←hx2]; rfl
  have hc:=cont_L [B.cells [.lst 1 f (c.l.map encI),.int .i64 c.r,.lst 4 g (c.p.map encCl)]] (.fn 184 []) (fun a=>!clB a) c.p g hp (by simp [encI]) (by simp) (fun m _=>callP (valid1C m) (by simp))
  simp only [LCl] at hc
  refine wx ?_
  simp -implicitDefEqProofs -dsimp [hi]
  refine hQ _ _ _ ?_
  simp -implicitDefEqProofs -dsimp []
  rw [←hu] at hc
  refine WCall.mono (K:=fun r H'=>r = .bool u∧H'=[B.cells [.lst 1 f (c.l.map encI),.int .i64 c.r,.lst 4 g (c.p.map encCl)]]) hc ?_
  rintro r H' ⟨rfl,rfl⟩
  rw [←hfin]
  simp -implicitDefEqProofs -dsimp []
theorem valid16 (n:Nat) (c:Cfd) (f g:Bool) (hn:n≤16) (hl:c.l.length≤1000000) (hp:c.p.length≤1000000):ConP Tryz.prog 204 [.int .i64 n,encCfd f g c] fun r=>r = .bool (cfB n c):=by
 have n1:¬(n:Int)<0:=by omega
 have n2:¬(16:Int)<n:=by omega
 have wl:=wrapS c.l.length (by omega)
 unfold cfB
 by_cases h3:c.p.length=c.l.length+1
 case neg =>
  rw [decide_eq_false h3,Bool.false_and,Bool.and_false,Bool.and_false]
  refine conP_of_conH (conH_of_W tok Tryz.func204 rfl rfl ?_)
  refine wx ?_
  simp -implicitDefEqProofs -dsimp [Tryz.f204,List.replicate,encCfd,L1,LCl,n1,n2,wl,h3,show ¬(c.p.length:Int)=(c.l.length:Int)+1 by omega]
 by_cases h1:0≤c.r
 case neg =>
  rw [decide_eq_false h1,Bool.false_and]
  refine conP_of_conH (conH_of_W tok Tryz.func204 rfl rfl ?_)
  refine wx ?_
  simp -implicitDefEqProofs -dsimp [Tryz.f204,List.replicate,encCfd,L1,LCl,n1,n2,wl,h3,show (c.p.length:Int)=(c.l.length:Int)+1 by omega,show c.r<0 by omega]
 rw [decide_eq_true h1,Bool.true_and]
 have h1':¬c.r<0:=by omega
 by_cases h2:c.r<n
 case neg =>
  rw [decide_eq_false h2,Bool.false_and]
  refine conP_of_conH (conH_of_W tok Tryz.func204 rfl rfl ?_)
  refine wx ?_
  simp -implicitDefEqProofs -dsimp [Tryz.f204,List.replicate,encCfd,L1,LCl,n1,n2,wl,h3,show (c.p.length:Int)=(c.l.length:Int)+1 by omega,h1',show (n:Int)≤c.r by omega]
 rw [decide_eq_true h2,Bool.true_and]
 have h2':¬(n:Int)≤c.r:=by omega
 rw [decide_eq_true h3,Bool.true_and]
 obtain ⟨E,hE⟩:∃E,E=ascI n c.r (-1) c.l:=⟨_,rfl⟩
 rw [←hE]
 obtain ⟨G,hG⟩:∃G,G=(E&&c.p.all clB):=⟨_,rfl⟩
 rw [←hG]
 refine conP_of_conH (conH_of_W tok Tryz.func204 rfl rfl ?_)
 refine wx ?_
 simp -implicitDefEqProofs -dsimp [Tryz.f204,List.replicate,encCfd,L1,LCl,n1,n2,h1',h2',wl,h3,show (c.p.length:Int)=(c.l.length:Int)+1 by omega]
 refine lw_of (W_loopM 85 [4,5,35,36,37,38,39,40,41,42,43,44,45,46,47,48,49,50,51,52,53,54,55,56,57,58,59,60,61,62,63,64,65,66,67,68,69,70,71,72,73,74,75,76,77,78,79,80,81,82,83,84] (by simp [mB]<;>rfl) (σ:=Nat×Int) (fun p=>ascI n c.r p.2 (c.l.drop p.1)=E∧(p.1=0→p.2 = -1)∧(0<p.1→c.l[p.1 - 1]?=some p.2∧0≤p.2)) (fun p=>c.l.length - p.1) (fun p=>[(5,.int .i64 p.1)]) (fun _=>[B.cells [.lst 1 f (c.l.map encI),.int .i64 c.r,.lst 4 g (c.p.map encCl)]]) (0,-1) ⟨by rw [hE]; rfl,fun _=>rfl,fun h=>by simp at h⟩ (by simp) (by simp) (by simp) ?_)
 rintro ⟨i,b⟩ ⟨hx,i0,i1⟩ N Q hN hQ
 simp only at hx i0 i1
 by_cases hi:i<c.l.length
 ·rw [List.drop_eq_getElem_cons hi,ascI_cons] at hx
  obtain ⟨a,ha⟩:∃a,a=c.l[i]:=⟨_,rfl⟩
  rw [←ha] at hx
  have hnext:0≤a→((i+1=0→a = -1)∧(0<i+1→c.l[i+1 - 1]?=some a∧0≤a)):=fun h=>⟨fun h=>by omega,fun _=>⟨by rw [Nat.add_sub_cancel,List.getElem?_eq_getElem hi,ha],h⟩⟩
  by_cases p0:0≤a
  case neg =>
   have hb:¬b<a:=by
    rcases Nat.eq_zero_or_pos i with h | h
    ·have:=i0 h; omega
    ·have:=(i1 h).2; omega
   rw [decide_eq_false hb,Bool.false_and] at hx
   refine wx ?_
   simp -implicitDefEqProofs -dsimp [hi,ha.symm,encI,show a<0 by omega]
   refine .inr ⟨stop_of (by kernel_rfl),?_⟩
   refine hQ _ _ _ ?_
   simp -implicitDefEqProofs -dsimp []
   rw [hG,←hx]; simp
  by_cases p1:a<n
  case neg =>
   have hx2:false=E:=by rw [←hx,decide_eq_false p1]; simp
   refine wx ?_
   simp -implicitDefEqProofs -dsimp [hi,ha.symm,encI,show ¬a<0 by omega,show (n:Int)≤a by omega]
   refine .inr ⟨stop_of (by kernel_rfl),?_⟩
   refine hQ _ _ _ ?_
   simp -implicitDefEqProofs -dsimp []
   rw [hG,←hx2]; simp
  by_cases p2:a=c.r
  ·have hx2:false=E:=by rw [←hx,decide_eq_true p2]; simp
   have ha2:c.l[i]=c.r:=ha.symm.trans p2
   refine wx ?_
   simp -implicitDefEqProofs -dsimp [hi,ha2,encI,show ¬c.r<0 by omega,show ¬(n:Int)≤c.r by omega]
   refine .inr ⟨stop_of (by kernel_rfl),?_⟩
   refine hQ _ _ _ ?_
   simp -implicitDefEqProofs -dsimp []
   rw [hG,←hx2]; simp
  rw [decide_eq_true p1,decide_eq_false p2,Bool.not_false,Bool.true_and,Bool.true_and] at hx
  rcases Nat.eq_zero_or_pos i with h | h
  ·have hb:=i0 h
   rw [decide_eq_true (by omega),Bool.true_and] at hx
   refine wx ?_
   simp -implicitDefEqProofs -dsimp [hi,ha.symm,encI,show ¬a<0 by omega,show ¬(n:Int)≤a by omega,p2,show ¬0<i by omega,wrapS i (by omega)]
   refine .inr ⟨stop_of (by kernel_rfl),?_⟩
   refine hN (i+1,a) _ _ ⟨hx,hnext p0⟩ (by simp only; omega) (by simp) ⟨_,rfl⟩ (by simp [encI]) (by simp [encI])
  ·obtain ⟨hg,hb0⟩:=i1 h
   have hj:((i - 1:Nat):Int)<c.l.length:=by omega
   by_cases hb:b<a
   ·rw [decide_eq_true hb,Bool.true_and] at hx
    refine wx ?_
    simp -implicitDefEqProofs -dsimp [hi,ha.symm,encI,show ¬a<0 by omega,show ¬(n:Int)≤a by omega,p2,h,hg,hj,wrapP i (by omega) h,show ¬a≤b by omega,wrapS i (by omega)]
    refine .inr ⟨stop_of (by kernel_rfl),?_⟩
    refine hN (i+1,a) _ _ ⟨hx,hnext p0⟩ (by simp only; omega) (by simp) ⟨_,rfl⟩ (by simp [encI]) (by simp [encI])
   ·rw [decide_eq_false hb,Bool.false_and] at hx
    refine wx ?_
    simp -implicitDefEqProofs -dsimp [hi,ha.symm,encI,show ¬a<0 by omega,show ¬(n:Int)≤a by omega,p2,h,hg,hj,wrapP i (by omega) h,show a≤b by omega,wrapS i (by omega)]
    refine .inr ⟨stop_of (by kernel_rfl),?_⟩
    refine hQ _ _ _ ?_
    simp -implicitDefEqProofs -dsimp []
    rw [hG,←hx]; simp
 ·rw [List.drop_of_length_le (by omega)] at hx
  have hx2:true=E:=hx
  obtain ⟨F,hF⟩:∃F,F=c.p.all clB:=⟨_,rfl⟩
  have hGF:G=F:=by rw [hG,←hx2,hF]; rfl
  refine wx ?_
  simp -implicitDefEqProofs -dsimp [hi]
  refine hQ _ _ _ ?_
  simp -implicitDefEqProofs -dsimp []
  refine lw_of (W_loopM 111 [4,6,7,85,86,87,88,89,90,91,92,93,94,95,96,97,98,99,100,101,102,103,104,105,106,107,108,109,110] (by simp [mB]<;>rfl) (σ:=Nat) (fun j=>(c.p.drop j).all clB=F) (fun j=>c.p.length - j) (fun j=>[(6,.int .i64 j)]) (fun _=>[B.cells [.lst 1 f (c.l.map encI),.int .i64 c.r,.lst 4 g (c.p.map encCl)]]) 0 (by rw [hF,List.drop_zero]) (by simp) (by simp) (by simp) ?_)
  intro j hy N2 Q2 hN2 hQ2
  by_cases hj:j<c.p.length
  ·rw [List.drop_eq_getElem_cons hj,List.all_cons] at hy
   obtain ⟨y,hye⟩:∃y,y=c.p[j]:=⟨_,rfl⟩
   rw [←hye] at hy
   have cv:=valid01 y.x
   simp only [encV] at cv
   cases ha:y.any with
   | true =>
    cases hz:zeroV y.x with
    | true =>
     have hz2:eqVB ⟨y.x.k,y.x.n,y.x.s⟩ ⟨0,0,ByteArray.empty⟩=true:=hz
     rw [show clB y=true by unfold clB; rw [ha,if_pos rfl,hz],Bool.true_and] at hy
     have hzz:eqVB ⟨0,0,ByteArray.empty⟩ ⟨0,0,ByteArray.empty⟩=true:=(eqVB_iff _ _).2 rfl
     have hxe:=zeroV_eq hz
     rw [hxe,zero_valid] at cv
     simp only [zV] at cv
     refine wx ?_
     simp -implicitDefEqProofs -dsimp [hj,hye.symm,encCl,ha,eqVl,hxe,zV,hzz]
     refine (callP (cv) (by simp)).mono ?_
     rintro r H' ⟨rfl,rfl⟩
     simp -implicitDefEqProofs -dsimp [wrapS j (by omega)]
     refine hN2 (j+1) _ _ hy (by omega) (by simp) ⟨_,rfl⟩ (by simp [encI]) (by simp [encI])
    | false =>
     have hz2:eqVB ⟨y.x.k,y.x.n,y.x.s⟩ ⟨0,0,ByteArray.empty⟩=false:=hz
     rw [show clB y=false by unfold clB; rw [ha,if_pos rfl,hz],Bool.false_and] at hy
     refine wx ?_
     simp -implicitDefEqProofs -dsimp [hj,hye.symm,encCl,ha,eqVl,hz2]
     refine hQ2 _ _ _ ?_
     simp -implicitDefEqProofs -dsimp []
     rw [hGF,←hy]
   | false =>
    cases hz:validV y.x with
    | true =>
     rw [show clB y=true by unfold clB; rw [ha,if_neg (by simp),hz],Bool.true_and] at hy
     rw [hz] at cv
     refine wx ?_
     simp -implicitDefEqProofs -dsimp [hj,hye.symm,encCl,ha]
     refine (callP (cv) (by simp)).mono ?_
     rintro r H' ⟨rfl,rfl⟩
     simp -implicitDefEqProofs -dsimp [wrapS j (by omega)]
     refine hN2 (j+1) _ _ hy (by omega) (by simp) ⟨_,rfl⟩ (by simp [encI]) (by simp [encI])
    | false =>
     rw [show clB y=false by unfold clB; rw [ha,if_neg (by simp),hz],Bool.false_and] at hy
     rw [hz] at cv
     refine wx ?_
     simp -implicitDefEqProofs -dsimp [hj,hye.symm,encCl,ha]
     refine (callP (cv) (by simp)).mono ?_
     rintro r H' ⟨rfl,rfl⟩
     simp -implicitDefEqProofs -dsimp []
     refine hQ2 _ _ _ ?_
     simp -implicitDefEqProofs -dsimp []
     rw [hGF,←hy]
  ·rw [List.drop_of_length_le (by omega),List.all_nil] at hy
   refine wx ?_
   simp -implicitDefEqProofs -dsimp [hj]
   refine hQ2 _ _ _ ?_
   simp -implicitDefEqProofs -dsimp []
   rw [hGF,←hy]
theorem fits16 (v:Vl) (c:Cl) (h:v.s.size≤maxLen):ConP Tryz.prog 257 [encV v,encCl c] fun r=>r = .bool (clF c v):=by
 rw [clF_ref]
 have c1:=compare01 v c.x h
 simp only [encV] at c1
 obtain ⟨q,hq⟩:∃q,q=cmpV v c.x:=⟨_,rfl⟩
 rw [←hq] at c1 ⊢
 cases ha:c.any with
 | true =>
  refine conP_of_conH (conH_of_W tok Tryz.func257 rfl rfl ?_)
  refine wx ?_
  simp -implicitDefEqProofs -dsimp [Tryz.f257,List.replicate,encV,encCl,ha]
 | false =>
  by_cases h0:q=0
  ·refine conP_of_conH (conH_of_W tok Tryz.func257 rfl rfl ?_)
   refine wx ?_
   simp -implicitDefEqProofs -dsimp [Tryz.f257,List.replicate,encV,encCl,ha]
   refine (callP (c1) (by simp)).mono ?_
   rintro r H' ⟨rfl,rfl⟩
   simp -implicitDefEqProofs -dsimp [h0]
  ·refine conP_of_conH (conH_of_W tok Tryz.func257 rfl rfl ?_)
   refine wx ?_
   simp -implicitDefEqProofs -dsimp [Tryz.f257,List.replicate,encV,encCl,ha]
   refine (callP (c1) (by simp)).mono ?_
   rintro r H' ⟨rfl,rfl⟩
   simp -implicitDefEqProofs -dsimp [h0]
theorem fits_u (c:Cl) (v:Vl):ConP Tryz.prog 187 [encCl c,encV v] fun r=>r = .bool (clF c v):=by
 unfold clF
 cases ha:c.any with
 | true =>
  refine conP_of_conH (conH_of_W tok Tryz.func187 rfl rfl ?_)
  refine wx ?_
  simp -implicitDefEqProofs -dsimp [Tryz.f187,List.replicate,encV,encCl,ha]
 | false =>
  refine conP_of_conH (conH_of_W tok Tryz.func187 rfl rfl ?_)
  refine wx ?_
  simp -implicitDefEqProofs -dsimp [Tryz.f187,List.replicate,encV,encCl,ha,eqVl]
theorem right_u (c:Cfd) (f g:Bool) (hp:c.p.length=c.l.length+1):ConP Tryz.prog 188 [encCfd f g c] fun r=>r=encCl (clAt c.p c.l.length):=by
 have hb:c.l.length<c.p.length:=by omega
 have he:clAt c.p c.l.length=c.p[c.l.length]:=by simp [clAt,hb]
 rw [he]
 obtain ⟨k,hk⟩:∃k,k=c.l.length:=⟨_,rfl⟩
 simp only [←hk] at hb ⊢
 obtain ⟨x,hx⟩:∃x,x=c.p[k]:=⟨_,rfl⟩
 rw [←hx]
 refine conP_of_conH (conH_of_W tok Tryz.func188 rfl rfl ?_)
 refine wx ?_
 simp -implicitDefEqProofs -dsimp [Tryz.f188,List.replicate,encCfd,L1,LCl,encCl,hk.symm,hb,hx.symm]
theorem left16 (c:Cfd) (r:Rw) (f g f2:Bool) (n:Nat) (hv:r.vals.length=n) (ho:AtsOk n c.l) (hp:c.p.length=c.l.length+1) (hl:c.l.length≤1000000) (hs:∀v∈r.vals,v.s.size≤maxLen):ConP Tryz.prog 256 [encCfd f g c,LV f2 r.vals] fun x=>x = .bool (leftF c r):=by
 obtain ⟨E,hE⟩:∃E,E=leftF c r:=⟨_,rfl⟩
 rw [←hE]
 refine conP_of_conH (conH_of_W tok Tryz.func256 rfl rfl ?_)
 refine wx ?_
 simp -implicitDefEqProofs -dsimp [Tryz.f256,List.replicate,encCfd,L1,LCl,LV]
 refine lw_of (W_loopM 28 [4,5,6,7,8,9,10,11,12,13,14,15,16,17,18,19,20,21,22,23,24,25,26,27] (by simp [mB]<;>rfl) (σ:=Nat) (fun i=>leftT c r i (c.l.drop i)=E) (fun i=>c.l.length - i) (fun i=>[(5,.int .i64 i)]) (fun _=>[B.cells [.lst 1 f (c.l.map encI),.int .i64 c.r,.lst 4 g (c.p.map encCl)]]) 0 (by rw [hE]; rfl) (by simp) (by simp) (by simp) ?_)
 intro i hx N Q hN hQ
 by_cases hi:i<c.l.length
 ·rw [List.drop_eq_getElem_cons hi,leftT] at hx
  obtain ⟨h1,h2⟩:=ho _ (List.getElem_mem hi)
  obtain ⟨k,hk⟩:=Int.eq_ofNat_of_zero_le h1
  have hkv:k<r.vals.length:=by omega
  have hip:i<c.p.length:=by omega
  have hce:clAt c.p i=c.p[i]:=by simp [clAt,hip]
  rw [hk,vAt_nat hkv,hce] at hx
  have hsz:=hs _ (List.getElem_mem hkv)
  obtain ⟨x,hxx⟩:∃x,x=r.vals[k]:=⟨_,rfl⟩
  obtain ⟨y,hyy⟩:∃y,y=c.p[i]:=⟨_,rfl⟩
  rw [←hxx,←hyy] at hx
  rw [←hxx] at hsz
  have cc:=fits16 x y hsz
  simp only [encV,encCl] at cc
  cases hq:clF y x with
  | true =>
   rw [hq] at cc hx
   refine wx ?_
   simp -implicitDefEqProofs -dsimp [hi,hk,encI,encV,encCl,hkv,hip,hxx.symm,hyy.symm]
   refine .inr ⟨stop_of (by kernel_rfl),?_⟩
   refine cy_of _ (callP (cc) (by simp)) ?_
   simp -implicitDefEqProofs -dsimp [wrapS i (by omega)]
   refine hN (i+1) _ _ (by simpa using hx) (by omega) (by simp) ⟨_,rfl⟩ (by simp [encI]) (by simp [encI])
  | false =>
   rw [hq] at cc hx
   refine wx ?_
   simp -implicitDefEqProofs -dsimp [hi,hk,encI,encV,encCl,hkv,hip,hxx.symm,hyy.symm]
   refine .inr ⟨stop_of (by kernel_rfl),?_⟩
   refine cy_of _ (callP (cc) (by simp)) ?_
   simp -implicitDefEqProofs -dsimp []
   refine hQ _ _ _ ?_
   simp -implicitDefEqProofs -dsimp []
   simpa using hx
 ·rw [List.drop_of_length_le (by omega),leftT] at hx
  refine wx ?_
  simp -implicitDefEqProofs -dsimp [hi]
  refine hQ _ _ _ ?_
  simp -implicitDefEqProofs -dsimp []
  rw [←hx]
theorem left_u (c:Cfd) (r:Rw) (f g f2:Bool) (n:Nat) (hv:r.vals.length=n) (ho:AtsOk n c.l) (hp:c.p.length=c.l.length+1) (hl:c.l.length≤1000000):ConP Tryz.prog 186 [encCfd f g c,LV f2 r.vals] fun x=>x = .bool (leftF c r):=by
 obtain ⟨E,hE⟩:∃E,E=leftF c r:=⟨_,rfl⟩
 rw [←hE]
 refine conP_of_conH (conH_of_W tok Tryz.func186 rfl rfl ?_)
 refine wx ?_
 simp -implicitDefEqProofs -dsimp [Tryz.f186,List.replicate,encCfd,L1,LCl,LV]
 refine lw_of (W_loopM 27 [4,5,6,10,11,12,13,14,15,16,17,18,19,20,21,22,23,24,25,26] (by simp [mB]<;>rfl) (σ:=Nat) (fun i=>leftT c r i (c.l.drop i)=E) (fun i=>c.l.length - i) (fun i=>[(10,.int .i64 i)]) (fun _=>[B.cells [.lst 1 f (c.l.map encI),.int .i64 c.r,.lst 4 g (c.p.map encCl)]]) 0 (by rw [hE]; rfl) (by simp) (by simp) (by simp) ?_)
 intro i hx N Q hN hQ
 by_cases hi:i<c.l.length
 ·rw [List.drop_eq_getElem_cons hi,leftT] at hx
  obtain ⟨h1,h2⟩:=ho _ (List.getElem_mem hi)
  obtain ⟨k,hk⟩:=Int.eq_ofNat_of_zero_le h1
  have hkv:k<r.vals.length:=by omega
  have hip:i<c.p.length:=by omega
  have hce:clAt c.p i=c.p[i]:=by simp [clAt,hip]
  rw [hk,vAt_nat hkv,hce] at hx
  obtain ⟨x,hxx⟩:∃x,x=r.vals[k]:=⟨_,rfl⟩
  obtain ⟨y,hyy⟩:∃y,y=c.p[i]:=⟨_,rfl⟩
  rw [←hxx,←hyy] at hx
  have cc:=fits_u y x
  simp only [encV,encCl] at cc
  cases hq:clF y x with
  | true =>
   rw [hq] at cc hx
   refine wx ?_
   simp -implicitDefEqProofs -dsimp [hi,hk,encI,encV,encCl,hkv,hip,hxx.symm,hyy.symm]
   refine .inr ⟨stop_of (by kernel_rfl),?_⟩
   refine cy_of _ (callP (cc) (by simp)) ?_
   simp -implicitDefEqProofs -dsimp [wrapS i (by omega)]
   refine hN (i+1) _ _ (by simpa using hx) (by omega) (by simp) ⟨_,rfl⟩ (by simp [encI]) (by simp [encI])
  | false =>
   rw [hq] at cc hx
   refine wx ?_
   simp -implicitDefEqProofs -dsimp [hi,hk,encI,encV,encCl,hkv,hip,hxx.symm,hyy.symm]
   refine .inr ⟨stop_of (by kernel_rfl),?_⟩
   refine cy_of _ (callP (cc) (by simp)) ?_
   simp -implicitDefEqProofs -dsimp []
   refine hQ _ _ _ ?_
   simp -implicitDefEqProofs -dsimp []
   simpa using hx
 ·rw [List.drop_of_length_le (by omega),leftT] at hx
  refine wx ?_
  simp -implicitDefEqProofs -dsimp [hi]
  refine hQ _ _ _ ?_
  simp -implicitDefEqProofs -dsimp []
  rw [←hx]
structure CfOk (n:Nat) (c:Cfd):Prop where
 p:c.p.length=c.l.length+1
 l:AtsOk n c.l
 r0:0≤c.r
 r1:c.r<n
 lb:c.l.length≤1000000
theorem cf_ok {n:Nat} {c:Cfd} (h:cfB n c=true) (hl:c.l.length≤1000000):CfOk n c:=by
 unfold cfB at h
 simp only [Bool.and_eq_true,decide_eq_true_eq] at h
 exact ⟨h.2.2.1,ascI_ats (b:=-1) (by omega) h.2.2.2.1,h.1,h.2.1,hl⟩
theorem alone16 (c:Cfd) (r:Rw) (f g f2:Bool) (n:Nat) (h:CfOk n c) (hv:r.vals.length=n) (hs:∀v∈r.vals,v.s.size≤maxLen):ConP Tryz.prog 205 [encCfd f g c,LV f2 r.vals] fun x=>x = .bool (aloneF c r):=by
 have c1:=left16 c r f g f2 n hv h.l h.p h.lb hs
 obtain ⟨k,hk⟩:=Int.eq_ofNat_of_zero_le h.r0
 have hr1:=h.r1
 have hkv:k<r.vals.length:=by omega
 have hip:c.l.length<c.p.length:=by have:=h.p; omega
 have hce:clAt c.p c.l.length=c.p[c.l.length]:=by simp [clAt,hip]
 have hsz:=hs _ (List.getElem_mem hkv)
 obtain ⟨x,hxx⟩:∃x,x=r.vals[k]:=⟨_,rfl⟩
 rw [←hxx] at hsz
 obtain ⟨m,hm⟩:∃m,m=c.l.length:=⟨_,rfl⟩
 simp only [←hm] at hip hce
 obtain ⟨y,hyy⟩:∃y,y=c.p[m]:=⟨_,rfl⟩
 have c2:=fits16 x y hsz
 have hrt:rightF c r=clF y x:=by unfold rightF; rw [←hm,hce,hk,vAt_nat hkv,←hxx,←hyy]
 simp only [encCfd,L1,LCl,LV,encV,encCl] at c1 c2
 unfold aloneF
 rw [hrt]
 cases h1:leftF c r with
 | false =>
  rw [h1] at c1
  refine conP_of_conH (conH_of_W tok Tryz.func205 rfl rfl ?_)
  refine wx ?_
  simp -implicitDefEqProofs -dsimp [Tryz.f205,List.replicate,encCfd,L1,LCl,LV]
  refine .inr ⟨stop_of (by kernel_rfl),?_⟩
  refine cy_of _ (callP (c1) (by simp)) ?_
  simp -implicitDefEqProofs -dsimp []
 | true =>
  rw [h1] at c1
  refine conP_of_conH (conH_of_W tok Tryz.func205 rfl rfl ?_)
  refine wx ?_
  simp -implicitDefEqProofs -dsimp [Tryz.f205,List.replicate,encCfd,L1,LCl,LV]
  refine .inr ⟨stop_of (by kernel_rfl),?_⟩
  refine cy_of _ (callP (c1) (by simp)) ?_
  simp -implicitDefEqProofs -dsimp [hk,hkv,hxx.symm,encV,hm.symm,hip,hyy.symm,encCl]
  refine cy_of _ (callP (c2) (by simp)) ?_
  simp -implicitDefEqProofs -dsimp []
theorem pair16 (c:Cfd) (a b:Rw) (f g fa fb:Bool) (n:Nat) (h:CfOk n c) (hva:a.vals.length=n) (hvb:b.vals.length=n) (hsa:∀v∈a.vals,v.s.size≤maxLen) (hsb:∀v∈b.vals,v.s.size≤maxLen):ConP Tryz.prog 206 [encCfd f g c,LV fa a.vals,LV fb b.vals] fun x=>x = .bool (pair2F c a b):=by
 have c1:=left16 c a f g fa n hva h.l h.p h.lb hsa
 have c2:=left16 c b f g fb n hvb h.l h.p h.lb hsb
 obtain ⟨k,hk⟩:=Int.eq_ofNat_of_zero_le h.r0
 have hr1:=h.r1
 have hka:k<a.vals.length:=by omega
 have hkb:k<b.vals.length:=by omega
 obtain ⟨x,hxx⟩:∃x,x=a.vals[k]:=⟨_,rfl⟩
 obtain ⟨y,hyy⟩:∃y,y=b.vals[k]:=⟨_,rfl⟩
 have hsx:x.s.size≤maxLen:=by rw [hxx]; exact hsa _ (List.getElem_mem hka)
 have c3:=compare01 x y hsx
 have hpf:pairF c a b=(!eqVB x y&&c.l.all fun k=>eqVB (vAt a.vals k.toNat) (vAt b.vals k.toNat)):=by unfold pairF; rw [hk,vAt_nat hka,vAt_nat hkb,←hxx,←hyy]
 simp only [encCfd,L1,LCl,LV,encV] at c1 c2 c3
 unfold pair2F
 rw [hpf]
 cases h1:leftF c a with
 | false =>
  rw [h1] at c1
  refine conP_of_conH (conH_of_W tok Tryz.func206 rfl rfl ?_)
  refine wx ?_
  simp -implicitDefEqProofs -dsimp [Tryz.f206,List.replicate,encCfd,L1,LCl,LV]
  refine .inr ⟨stop_of (by kernel_rfl),?_⟩
  refine cy_of _ (callP (c1) (by simp)) ?_
  simp -implicitDefEqProofs -dsimp []
 | true =>
  rw [h1] at c1
  cases h2:leftF c b with
  | false =>
   rw [h2] at c2
   refine conP_of_conH (conH_of_W tok Tryz.func206 rfl rfl ?_)
   refine wx ?_
   simp -implicitDefEqProofs -dsimp [Tryz.f206,List.replicate,encCfd,L1,LCl,LV]
   refine .inr ⟨stop_of (by kernel_rfl),?_⟩
   refine cy_of _ (callP (c1) (by simp)) ?_
   simp -implicitDefEqProofs -dsimp []
   refine cy_of _ (callP (c2) (by simp)) ?_
   simp -implicitDefEqProofs -dsimp []
  | true =>
   rw [h2] at c2
   rw [eqVB_cmp x y]
   obtain ⟨q,hq⟩:∃q,q=cmpV x y:=⟨_,rfl⟩
   rw [←hq] at c3 ⊢
   by_cases h3:q=0
   ·rw [decide_eq_true h3]
    refine conP_of_conH (conH_of_W tok Tryz.func206 rfl rfl ?_)
    refine wx ?_
    simp -implicitDefEqProofs -dsimp [Tryz.f206,List.replicate,encCfd,L1,LCl,LV]
    refine .inr ⟨stop_of (by kernel_rfl),?_⟩
    refine cy_of _ (callP (c1) (by simp)) ?_
    simp -implicitDefEqProofs -dsimp []
    refine cy_of _ (callP (c2) (by simp)) ?_
    simp -implicitDefEqProofs -dsimp [hk,hka,hkb,hxx.symm,hyy.symm,encV]
    refine cy_of _ (callP (c3) (by simp)) ?_
    simp -implicitDefEqProofs -dsimp [h3]
   ·rw [decide_eq_false h3]
    obtain ⟨E,hE⟩:∃E,E=c.l.all fun k=>eqVB (vAt a.vals k.toNat) (vAt b.vals k.toNat):=⟨_,rfl⟩
    rw [←hE]
    refine conP_of_conH (conH_of_W tok Tryz.func206 rfl rfl ?_)
    refine wx ?_
    simp -implicitDefEqProofs -dsimp [Tryz.f206,List.replicate,encCfd,L1,LCl,LV]
    refine .inr ⟨stop_of (by kernel_rfl),?_⟩
    refine cy_of _ (callP (c1) (by simp)) ?_
    simp -implicitDefEqProofs -dsimp []
    refine cy_of _ (callP (c2) (by simp)) ?_
    simp -implicitDefEqProofs -dsimp [hk,hka,hkb,hxx.symm,hyy.symm,encV]
    refine cy_of _ (callP (c3) (by simp)) ?_
    simp -implicitDefEqProofs -dsimp [h3]
    refine lw_of (W_loopM 57 [6,7,32,33,34,35,36,37,38,39,40,41,42,43,44,45,46,47,48,49,50,51,52,53,54,55,56] (by simp [mB]<;>rfl) (σ:=Nat) (fun i=>(c.l.drop i).all (fun k=>eqVB (vAt a.vals k.toNat) (vAt b.vals k.toNat))=E) (fun i=>c.l.length - i) (fun i=>[(7,.int .i64 i)]) (fun _=>[B.cells [.lst 1 f (c.l.map encI),.int .i64 c.r,.lst 4 g (c.p.map encCl)]]) 0 (by rw [hE,List.drop_zero]) (by simp) (by simp [hk]) (by simp) ?_)
    have hlb:=h.lb
    intro i hx N Q hN hQ
    by_cases hi:i<c.l.length
    ·rw [List.drop_eq_getElem_cons hi,List.all_cons] at hx
     obtain ⟨u1,u2⟩:=h.l _ (List.getElem_mem hi)
     obtain ⟨j,hj⟩:=Int.eq_ofNat_of_zero_le u1
     have hja:j<a.vals.length:=by omega
     have hjb:j<b.vals.length:=by omega
     rw [hj,vAt_nat hja,vAt_nat hjb] at hx
     obtain ⟨v,hv⟩:∃v,v=a.vals[j]:=⟨_,rfl⟩
     obtain ⟨w,hw⟩:∃w,w=b.vals[j]:=⟨_,rfl⟩
     rw [←hv,←hw,eqVB_cmp] at hx
     have hsv:v.s.size≤maxLen:=by rw [hv]; exact hsa _ (List.getElem_mem hja)
     have c4:=compare01 v w hsv
     simp only [encV] at c4
     obtain ⟨z,hz⟩:∃z,z=cmpV v w:=⟨_,rfl⟩
     rw [←hz] at c4 hx
     by_cases h4:z=0
     ·rw [decide_eq_true h4,Bool.true_and] at hx
      refine wx ?_
      simp -implicitDefEqProofs -dsimp [hi,hj,encI,encV,hja,hjb,hv.symm,hw.symm]
      refine .inr ⟨stop_of (by kernel_rfl),?_⟩
      refine cy_of _ (callP (c4) (by simp)) ?_
      simp -implicitDefEqProofs -dsimp [h4,wrapS i (by omega)]
      refine hN (i+1) _ _ hx (by omega) (by simp) ⟨_,rfl⟩ (by simp [encI]) (by simp [encI])
     ·rw [decide_eq_false h4,Bool.false_and] at hx
      refine wx ?_
      simp -implicitDefEqProofs -dsimp [hi,hj,encI,encV,hja,hjb,hv.symm,hw.symm]
      refine .inr ⟨stop_of (by kernel_rfl),?_⟩
      refine cy_of _ (callP (c4) (by simp)) ?_
      simp -implicitDefEqProofs -dsimp [h4]
      refine hQ _ _ _ ?_
      simp -implicitDefEqProofs -dsimp []
      rw [←hx]
    ·rw [List.drop_of_length_le (by omega),List.all_nil] at hx
     refine wx ?_
     simp -implicitDefEqProofs -dsimp [hi]
     refine hQ _ _ _ ?_
     simp -implicitDefEqProofs -dsimp []
     rw [←hx]
theorem pclo_u (a b:Rw) (fa fb:Bool) (b0:B) (n:Nat) (hva:a.vals.length=n) (hvb:b.vals.length=n) (k:Int) (h0:0≤k) (h1:k<n) :
  WCall Tryz.prog (.fn 240 [.ptr 1 0,.ptr 2 0]) [.int .i64 k] [b0,B.cells [LV fa a.vals],B.cells [LV fb b.vals]] fun r H'=>r = .bool (!eqVB (vAt a.vals k.toNat) (vAt b.vals k.toNat))∧H'=[b0,B.cells [LV fa a.vals],B.cells [LV fb b.vals]]:=by
 obtain ⟨j,hj⟩:=Int.eq_ofNat_of_zero_le h0
 have hja:j<a.vals.length:=by omega
 have hjb:j<b.vals.length:=by omega
 rw [hj,vAt_nat hja,vAt_nat hjb]
 obtain ⟨v,hv⟩:∃v,v=a.vals[j]:=⟨_,rfl⟩
 obtain ⟨w,hw⟩:∃w,w=b.vals[j]:=⟨_,rfl⟩
 rw [←hv,←hw]
 simp only [WCall,List.cons_append,List.nil_append,LV]
 cases he:eqVB ⟨v.k,v.n,v.s⟩ ⟨w.k,w.n,w.s⟩ with
 | true =>
  refine conH_of_W tok Tryz.func240 rfl rfl ?_
  refine wx ?_
  simp -implicitDefEqProofs -dsimp [Tryz.f240,List.replicate,hja,hjb,hv.symm,hw.symm,encV,eqVl,he]
  exact .inr (stop_of (by kernel_rfl))
 | false =>
  refine conH_of_W tok Tryz.func240 rfl rfl ?_
  refine wx ?_
  simp -implicitDefEqProofs -dsimp [Tryz.f240,List.replicate,hja,hjb,hv.symm,hw.symm,encV,eqVl,he]
  exact .inr (stop_of (by kernel_rfl))
theorem pairC_u (c:Cfd) (a b:Rw) (f g fa fb:Bool) (n:Nat) (h:CfOk n c) (hva:a.vals.length=n) (hvb:b.vals.length=n):ConP Tryz.prog 189 [encCfd f g c,LV fa a.vals,LV fb b.vals] fun x=>x = .bool (pairF c a b):=by
 obtain ⟨k,hk⟩:=Int.eq_ofNat_of_zero_le h.r0
 have hr1:=h.r1
 have hka:k<a.vals.length:=by omega
 have hkb:k<b.vals.length:=by omega
 obtain ⟨x,hxx⟩:∃x,x=a.vals[k]:=⟨_,rfl⟩
 obtain ⟨y,hyy⟩:∃y,y=b.vals[k]:=⟨_,rfl⟩
 have hpf:pairF c a b=(!eqVB x y&&c.l.all fun k=>eqVB (vAt a.vals k.toNat) (vAt b.vals k.toNat)):=by unfold pairF; rw [hk,vAt_nat hka,vAt_nat hkb,←hxx,←hyy]
 rw [hpf,←any_notA]
 have hc:=cont_I [B.cells [.lst 1 f (c.l.map encI),.int .i64 c.r,.lst 4 g (c.p.map encCl)],B.cells [LV fa a.vals],B.cells [LV fb b.vals]] (.fn 240 [.ptr 1 0,.ptr 2 0]) (fun k=>!eqVB (vAt a.vals k.toNat) (vAt b.vals k.toNat)) c.l f h.lb (by simp [LV,encI]) (by simp) (fun m hm=>pclo_u a b fa fb _ n hva hvb m (h.l m hm).1 (h.l m hm).2)
 obtain ⟨u,hu⟩:∃u,u=c.l.any fun k=>!eqVB (vAt a.vals k.toNat) (vAt b.vals k.toNat):=⟨_,rfl⟩
 rw [←hu] at hc ⊢
 simp only [L1,LV,hk] at hc
 cases he:eqVB ⟨x.k,x.n,x.s⟩ ⟨y.k,y.n,y.s⟩ with
 | true =>
  refine conP_of_conH (conH_of_W tok Tryz.func189 rfl rfl ?_)
  refine wx ?_
  simp -implicitDefEqProofs -dsimp [Tryz.f189,List.replicate,encCfd,L1,LCl,LV,hk,hka,hkb,hxx.symm,hyy.symm,encV,eqVl,he]
  exact .inr (stop_of (by kernel_rfl))
 | false =>
  refine conP_of_conH (conH_of_W tok Tryz.func189 rfl rfl ?_)
  refine wx ?_
  simp -implicitDefEqProofs -dsimp [Tryz.f189,List.replicate,encCfd,L1,LCl,LV,hk,hka,hkb,hxx.symm,hyy.symm,encV,eqVl,he]
  refine .inl (lw_of (W_drawT tok mixed [15] [] [(.bool u,[B.cells [.lst 1 f (c.l.map encI),.int .i64 (k:Int),.lst 4 g (c.p.map encCl)],B.cells [.lst 3 fa (a.vals.map encV)],B.cells [.lst 3 fb (b.vals.map encV)]])] (by kernel_rfl) fun C K hC hK=>?_))
  simp -implicitDefEqProofs [hk,hka,hkb,hxx.symm,hyy.symm,encV,eqVl,he]
  refine ⟨hC _ _ _ _ hc,hK _ _ ?_⟩
  simp -implicitDefEqProofs -dsimp []
def ccB (c:Cfd) (f g:Bool):B:=B.cells [.lst 1 f (c.l.map encI),.int .i64 c.r,.lst 4 g (c.p.map encCl)]
theorem ccB_rb (n:Nat) (c:Cfd) (f g:Bool):rbB n (ccB c f g):=fun x hc=>by
 simp only [List.mem_cons,List.not_mem_nil,or_false] at hc
 rcases hc with rfl | rfl | rfl<;>simp [rb,rb1,encI]
theorem fil_cons {α β:Type} {p:α→Bool} {q:α→β} {R:List α} {i:Nat} (h:i<R.length):((R.drop i).filter p).map q=(if p R[i]=true then [q R[i]] else [])++((R.drop (i+1)).filter p).map q:=by
 rw [List.drop_eq_getElem_cons h]
 by_cases hp:p R[i]=true
 ·rw [List.filter_cons_of_pos hp,if_pos hp]; rfl
 ·rw [List.filter_cons_of_neg hp,if_neg hp]; rfl
theorem viol16 (t:Tb) (c:Cfd) (f g f2 g2:Bool) (h:TbS t) (hl:c.l.length≤1000000) (hp:c.p.length≤1000000) (hv:validT t=0) (ho:cfB t.attrs.length c=true):ConP Tryz.prog 144 [encTb f g t,encCfd f2 g2 c] fun r=>r = .tup [LL false (cfdV c t.rows),.int .i64 0]:=by
 refine conP_LT ?_
 have ct:=tbC hv
 have ck:=cf_ok ho hl
 have c1:=valid03 t f g h.ok
 rw [hv] at c1
 have c2:=valid16 t.attrs.length c f2 g2 ct.wide hl hp
 rw [ho] at c2
 simp only [encTb,LR,LS,encCfd,L1,LCl] at c1 c2
 obtain ⟨R,hR⟩:∃R,R=t.rows:=⟨_,rfl⟩
 have htB:tcB t f g = .cells [.str t.name,.lst 1 f (t.attrs.map V.str),.lst 2 g (R.map encRw)]:=by rw [hR]; rfl
 obtain ⟨S1,hS1⟩:∃S1,S1=(R.filter (aloneF c)).map fun r=>[r.id]:=⟨_,rfl⟩
 obtain ⟨E,hE⟩:∃E,E=cfdV c R:=⟨_,rfl⟩
 have hR8:R.length≤8:=by rw [hR]; exact h.few
 have hE64:E.length≤72:=by rw [hE]; have:=cfdV_len c R; have:=sq8 hR8; omega
 have hS8:S1.length≤8:=by rw [hS1,List.length_map]; exact Nat.le_trans (List.length_filter_le _ _) hR8
 have hES:S1++prL (pair2F c) R=E:=by rw [hE,cfdV_ref,hS1]
 have hlen:∀r∈R,r.vals.length=t.attrs.length:=by rw [hR]; exact ct.len
 have hsz:∀r∈R,∀v∈r.vals,v.s.size≤maxLen:=by rw [hR]; exact h.sz
 rw [←hR] at c1 ⊢
 rw [←hE]
 have hrb:∀o:List (List Int),∀bl∈[B.cells [.str t.name,.lst 1 f (t.attrs.map V.str),.lst 2 g (R.map encRw)],B.cells [.lst 1 f2 (c.l.map encI),.int .i64 c.r,.lst 4 g2 (c.p.map encCl)],B.buf 34 1 (o.map (L1 true)) false],rbB 3 bl:=fun o bl hbl=>by
  simp only [List.mem_cons,List.not_mem_nil,or_false] at hbl
  rcases hbl with rfl | rfl | rfl
  ·rw [←htB]; exact tcB_rb _ _ _ _
  ·exact ccB_rb _ _ _ _
  ·exact LT_rb _ _ _
 refine conP_of_conH (conH_of_W (tok_flag tok (fun t=>t == 34)) Tryz.func144 rfl rfl ?_)
 refine W_x (tok_flag tok (fun t=>t == 34)) mixed ?_
 simp -implicitDefEqProofs -dsimp [Tryz.f144,List.replicate,encTb,encCfd,LR,LS,LCl,hR.symm,L1,flagT]
 refine (callP (c1) (by simp)).mono ?_
 rintro r H' ⟨rfl,rfl⟩
 simp -implicitDefEqProofs -dsimp [L1,flagT]
 refine (callP (c2) (by simp)).mono ?_
 rintro r H' ⟨rfl,rfl⟩
 simp -implicitDefEqProofs -dsimp [L1,flagT]
 refine lw_of (W_own 34 1 [7] (by simp) (W_loopM 47 [7,8,22,23,24,25,26,27,28,29,30,31,32,33,34,35,36,37,38,39,40,41,42,43,44,45,46] (by simp [mB]<;>rfl) (σ:=Nat×List (List Int)) (fun p=>p.2++((R.drop p.1).filter (aloneF c)).map (fun r=>[r.id])=S1) (fun p=>R.length - p.1) (fun p=>[(8,.int .i64 p.1),(7,.buf 2 0 p.2.length p.2.length)]) (fun p=>[B.cells [.str t.name,.lst 1 f (t.attrs.map V.str),.lst 2 g (R.map encRw)],B.cells [.lst 1 f2 (c.l.map encI),.int .i64 c.r,.lst 4 g2 (c.p.map encCl)],B.buf 34 1 (p.2.map (L1 true)) false]) (0,[]) (by rw [hS1]; rfl) (by simp) (by simp) (by simp) ?_))
 rintro ⟨i,out⟩ hx N Q hN hQ
 simp only at hx
 by_cases hb:i<R.length
 ·rw [fil_cons hb] at hx
  have hri:=hlen _ (List.getElem_mem hb)
  have hsi:=hsz _ (List.getElem_mem hb)
  obtain ⟨r,hre⟩:∃r,r=R[i]:=⟨_,rfl⟩
  rw [←hre] at hx hri hsi
  have c3:=alone16 c r f2 g2 false t.attrs.length ck hri hsi
  simp only [encCfd,L1,LCl,LV] at c3
  have hol:out.length≤8:=by rw [←hx] at hS8; simp only [List.length_append] at hS8; omega
  cases hq:aloneF c r with
  | false =>
   rw [hq] at c3 hx
   rw [if_neg (by simp),List.nil_append] at hx
   refine W_x (tok_flag tok (fun t=>t == 34)) mixed ?_
   simp -implicitDefEqProofs -dsimp [hb,hre.symm,encRw,LV,L1,flagT]
   refine .inr ⟨stop_of (by kernel_rfl),?_⟩
   refine cy_of _ (callP (c3) (by simp)) ?_
   simp -implicitDefEqProofs -dsimp [wrapS i (by omega),L1,flagT]
   refine hN (i+1,out) _ _ hx (by simp only; omega) (by simp) ⟨[],by simp⟩ (by simp) (hrb _)
  | true =>
   rw [hq] at c3 hx
   rw [if_pos rfl] at hx
   refine W_x (tok_flag tok (fun t=>t == 34)) mixed ?_
   simp -implicitDefEqProofs -dsimp [hb,hre.symm,encRw,LV,L1,flagT]
   refine .inr ⟨stop_of (by kernel_rfl),?_⟩
   refine cy_of _ (callP (c3) (by simp)) ?_
   simp -implicitDefEqProofs -dsimp [hb,hre.symm,encRw,LV,cap24 out.length (by omega),wrapN out.length (by omega),wrapS i (by omega),L1,flagT]
   refine hN (i+1,out++[[r.id]]) _ _ (by rw [←hx]; simp) (by simp only; omega) (by simp) ⟨[],by simp [encI,L1]⟩ (by simp) (hrb _)
 ·rw [List.drop_of_length_le (show R.length≤i by omega),List.filter_nil,List.map_nil,List.append_nil] at hx
  subst hx
  refine W_x (tok_flag tok (fun t=>t == 34)) mixed ?_
  simp -implicitDefEqProofs -dsimp [hb,L1,flagT]
  refine hQ _ _ _ ?_
  simp -implicitDefEqProofs -dsimp [L1,flagT]
  refine lw_of (W_loopM 93 [7,9,10,47,48,49,50,51,52,53,54,55,56,57,58,59,60,61,62,63,64,65,66,67,68,69,70,71,72,73,74,75,76,77,78,79,80,81,82,83,84,85,86,87,88,89,90,91,92] (by simp [mB]<;>rfl) (σ:=Nat×List (List Int)) (fun p=>p.2++prL (pair2F c) (R.drop p.1)=E) (fun p=>R.length - p.1) (fun p=>[(9,.int .i64 p.1),(7,.buf 2 0 p.2.length p.2.length)]) (fun p=>[B.cells [.str t.name,.lst 1 f (t.attrs.map V.str),.lst 2 g (R.map encRw)],B.cells [.lst 1 f2 (c.l.map encI),.int .i64 c.r,.lst 4 g2 (c.p.map encCl)],B.buf 34 1 (p.2.map (L1 true)) false]) (0,out) (by simpa using hES) (by simp) (by simp) (by simp) ?_)
  rintro ⟨i,out⟩ hx N Q hN hQ
  simp only at hx
  by_cases hb:i<R.length
  ·rw [pr_cons hb] at hx
   have hri:=hlen _ (List.getElem_mem hb)
   have hsi:=hsz _ (List.getElem_mem hb)
   obtain ⟨r,hre⟩:∃r,r=R[i]:=⟨_,rfl⟩
   rw [←hre] at hx hri hsi
   refine W_x (tok_flag tok (fun t=>t == 34)) mixed ?_
   simp -implicitDefEqProofs -dsimp [hb,wrapS i (by omega),L1,flagT]
   refine lw_of (W_loopM 93 [7,10,56,57,58,59,60,61,62,63,64,65,66,67,68,69,70,71,72,73,74,75,76,77,78,79,80,81,82,83,84,85,86,87,88,89,90,91,92] (by simp [mB]<;>rfl) (σ:=Nat×List (List Int)) (fun p=>i<p.1∧p.2++((((R.drop p.1).filter (pair2F c r)).map fun s=>[r.id,s.id])++prL (pair2F c) (R.drop (i+1)))=E) (fun p=>R.length - p.1) (fun p=>[(10,.int .i64 p.1),(7,.buf 2 0 p.2.length p.2.length)]) (fun p=>[B.cells [.str t.name,.lst 1 f (t.attrs.map V.str),.lst 2 g (R.map encRw)],B.cells [.lst 1 f2 (c.l.map encI),.int .i64 c.r,.lst 4 g2 (c.p.map encCl)],B.buf 34 1 (p.2.map (L1 true)) false]) (i+1,out) ⟨by simp,hx⟩ (by simp) (by simp) (by simp) ?_)
   rintro ⟨k,o2⟩ ⟨hk0,hx2⟩ N2 Q2 hN2 hQ2
   simp only at hk0 hx2
   by_cases hkb:k<R.length
   ·rw [in_cons hkb] at hx2
    have hrk:=hlen _ (List.getElem_mem hkb)
    have hsk:=hsz _ (List.getElem_mem hkb)
    obtain ⟨s,hse⟩:∃s,s=R[k]:=⟨_,rfl⟩
    rw [←hse] at hx2 hrk hsk
    have c4:=pair16 c r s f2 g2 false false t.attrs.length ck hri hrk hsi hsk
    simp only [encCfd,L1,LCl,LV] at c4
    have ho2:o2.length≤72:=by rw [←hx2] at hE64; simp only [List.length_append] at hE64; omega
    cases hq:pair2F c r s with
    | false =>
     rw [hq] at c4 hx2
     rw [if_neg (by simp),List.nil_append] at hx2
     refine W_x (tok_flag tok (fun t=>t == 34)) mixed ?_
     simp -implicitDefEqProofs -dsimp [hb,hkb,hre.symm,hse.symm,encRw,LV,L1,flagT]
     refine .inr ⟨stop_of (by kernel_rfl),?_⟩
     refine cy_of _ (callP (c4) (by simp)) ?_
     simp -implicitDefEqProofs -dsimp [wrapS k (by omega),L1,flagT]
     refine hN2 (k+1,o2) _ _ ⟨by simp only; omega,hx2⟩ (by simp only; omega) (by simp) ⟨[],by simp⟩ (by simp) (hrb _)
    | true =>
     rw [hq] at c4 hx2
     rw [if_pos rfl] at hx2
     refine W_x (tok_flag tok (fun t=>t == 34)) mixed ?_
     simp -implicitDefEqProofs -dsimp [hb,hkb,hre.symm,hse.symm,encRw,LV,L1,flagT]
     refine .inr ⟨stop_of (by kernel_rfl),?_⟩
     refine cy_of _ (callP (c4) (by simp)) ?_
     simp -implicitDefEqProofs -dsimp [L1,flagT]
     refine lw_of (W_drawT (tok_flag tok (fun t=>t == 34)) mixed [15] [] [] (by kernel_rfl) fun C K hC hK=>?_)
     simp -implicitDefEqProofs [hb,hkb,hre.symm,hse.symm,encRw,LV,cap24 o2.length (by omega),wrapN o2.length (by omega),L1,flagT]
     refine hK _ _ ?_
     simp -implicitDefEqProofs -dsimp [wrapS k (by omega),L1,flagT]
     refine hN2 (k+1,o2++[[r.id,s.id]]) _ _ ⟨by simp only; omega,by rw [←hx2]; simp⟩ (by simp only; omega) (by simp) ⟨[],by simp [encI,L1]⟩ (by simp) (hrb _)
   ·rw [List.drop_of_length_le (show R.length≤k by omega)] at hx2
    refine W_x (tok_flag tok (fun t=>t == 34)) mixed ?_
    simp -implicitDefEqProofs -dsimp [hkb,L1,flagT]
    refine hQ2 _ _ _ ?_
    simp -implicitDefEqProofs -dsimp [wrapS i (by omega),L1,flagT]
    refine hN (i+1,o2) _ _ (by simpa using hx2) (by simp only; omega) (by simp) ⟨[],by simp⟩ (by simp) (hrb _)
  ·rw [List.drop_of_length_le (show R.length≤i by omega),prL,List.append_nil] at hx
   subst hx
   refine W_frz 2 [7] rfl (by simp) ?_
   refine W_x (tok_flag tok (fun t=>t == 34)) mixed ?_
   simp -implicitDefEqProofs -dsimp [hb,L1,flagT]
   refine hQ _ _ _ ?_
   simp -implicitDefEqProofs -dsimp [LT,L1,flagT]
   skip
end
end Go.Proofs.YtjogkbekekdkjaaGreatDoor
