/- JM12: own texts of this seat, joined and shortened by pack4.py: K0, T1, T2, T3, T4, PT, T5, Wk, T6, T7, T8, T9, T10, G1, Ed, ClI, Bo. -/
import Derived.Test.YtdnhplencamncaaGreatDoorJM9
import Derived.Lib.Bytealg
import Derived.WalkSpells
import Derived.WalkLawsBesides
import Derived.Lib.Hide
import Derived.Maps.AppendAt
set_option linter.unusedVariables false
set_option linter.unusedSimpArgs false
set_option maxRecDepth 100000
set_option maxHeartbeats 64000000
open Array renaming range→rq
open Bool renaming false_eq_true→oZ,true_and→pE,false_and→pF,false_or→pr,eq_iff_iff→qS,and_false→rD,true_or→rT
open ByteArray renaming empty→oF
open Int renaming tmod_nonneg→rm
open List renaming replicate→oE,getElem?_eq_getElem→oG,getElem_mem→oI,drop_eq_getElem_cons→oK,range→oM,append_nil→oU,drop_of_length_le→oV,length_map→oW,length_cons→og,append_assoc→oh,map_cons→oq,drop_zero→pC,map_nil→pJ,getElem?_cons_succ→pL,mem_of_mem_take→pQ,length_drop→pk,range_succ→pv,getElem?_cons_zero→qI,any_cons→qW,map_take→qf,take→qi,length_mergeSort→qn,length_range→rC,all_cons→rh
open Nat renaming le_refl→oJ,zero_mul→pz
section

end
namespace Go.Proofs.YtdnhplencamncaaGreatDoor
section
open Go Go.AM
def seq(a b:ByteArray):Bool:=a.toList == b.toList
def cE(c:Int):Bool:=decide (97≤c)&&decide (c≤122)||decide (65≤c)&&decide (c≤90)||decide (c=95)
theorem jg(c:Int):(97≤c∧c≤122∧cE c=true)∨(97≤c∧¬c≤122∧65≤c∧¬c≤90∧¬c=95∧cE c=false)∨(¬97≤c∧65≤c∧c≤90∧cE c=true)∨(¬97≤c∧65≤c∧¬c≤90∧c=95∧cE c=true)∨(¬97≤c∧65≤c∧¬c≤90∧¬c=95∧cE c=false)∨(¬97≤c∧¬65≤c∧¬c=95∧cE c=false):=by
 have h:cE c=decide ((97≤c∧c≤122)∨(65≤c∧c≤90)∨c=95):=by
  unfold cE;simp only[Bool.decide_or,Bool.decide_and,Bool.or_assoc]
 rw[h];simp only[decide_eq_true_eq,decide_eq_false_iff_not];omega
theorem mw(c:Int):aJ Tryz.prog 194 [.int .u8 c] fun r=>r = .bool (cE c):=by
 rcases jg c with⟨h1,h2,h⟩ | ⟨h1,h2,h3,h4,h5,h⟩ | ⟨h1,h2,h3,h⟩ | ⟨h1,h2,h3,h4,h⟩ | ⟨h1,h2,h3,h4,h⟩ | ⟨h1,h2,h3,h⟩
 all_goals
  rw[h];refine sPx Tryz.func194 rfl rfl ?_;simp -dsimp[Tryz.f194,oE, *]
def bL(s:ByteArray)(i:Nat):Int:=((s[i]?).map fun b=>(b.toNat:Int)).getD 0
theorem fe{s:ByteArray}{i:Nat}(h:i<s.size):s[i]?=some s[i]∧(s[i].toNat:Int)=bL s i:=by
 have h1:s[i]?=some s[i]:=getElem?_pos s i h;exact⟨h1,by unfold bL;rw[h1];rfl⟩
theorem gy(bs:ByteArray):bs.data.toList.length=bs.size:=by simp
theorem ba_loop(bs:ByteArray):∀(n i:Nat) (r:List UInt8),bs.size-i=n→ByteArray.toList.loop bs i r=r.reverse++bs.data.toList.drop i
 | 0,i,r,h=>by
  have hl:=gy bs;rw[ByteArray.toList.loop,if_neg (by omega),oV (by omega),oU]
 | n+1,i,r,h=>by
  have hl:=gy bs
  have hi:i<bs.size:=by omega
  have hi2:i<bs.data.toList.length:=by omega
  rw[ByteArray.toList.loop,if_pos hi,ba_loop bs n (i+1) _ (by omega),oK hi2,List.reverse_cons,oh];congr 2
  have hi3:i<bs.data.size:=by simpa using hi2
  rw[ByteArray.get!,getElem!_pos bs.data i hi3];rfl
theorem ba_toList(bs:ByteArray):bs.toList=bs.data.toList:=by
 unfold ByteArray.toList;rw[ba_loop bs _ 0 [] rfl];rfl
theorem ba_nil(s:ByteArray):s.toList=[]↔s.size=0:=by
 rw[ba_toList];rw[←List.length_eq_zero_iff,gy]
def okAt(s:ByteArray)(i:Nat):Bool:=cE (bL s i)||(decide (i≠0)&&(decide (48≤bL s i)&&decide (bL s i≤57)))
def bT(s:ByteArray):Bool:=!decide (s.toList=[])&&decide (s.size≤24)&&!(s.toList == [110,117,108,108])&&(oM s.size).all (okAt s)
theorem allno{p:Nat→Bool}{n i:Nat}(h:i<n)(hp:p i=false):(oM n).all p=false:=by
 rw[List.all_eq_false];exact⟨i,by simpa using h,by simp[hp]⟩
theorem bt{p:Nat→Bool}{i:Nat}(h:(oM i).all p=true)(hp:p i=true):(oM (i+1)).all p=true:=by
 rw[pv,List.all_append,h];simp[hp]
theorem mz(s:ByteArray)(hsz:s.size≤maxLen):aJ Tryz.prog 70 [.str s] fun r=>r = .bool (bT s):=by
 by_cases h0:s.toList=[]
 ·rw[show bT s=false by simp[bT,h0]];refine sPx Tryz.func70 rfl rfl ?_;simp -dsimp[Tryz.f70,oE,h0]
 ·by_cases h24:s.size≤24
  ·cases hnl:(s.toList == [110,117,108,108])
   ·rw[show bT s=(oM s.size).all (okAt s) by simp[bT,h0,h24,hnl]];refine sPx Tryz.func70 rfl rfl ?_;simp -dsimp[Tryz.f70,oE,h0,hnl,show ¬(24:Int)<s.size by omega];refine aI (W_loopM 58 0x3fffffffff8003c (by simp[mB]<;>rfl) (σ:=Nat) (fun i=>i≤s.size∧(oM i).all (okAt s)=true) (fun i=>s.size-i) (fun i=>[(19,.int .i64 i)]) (fun _=>[]) 0 ⟨by omega,rfl⟩ (by simp) rfl (by simp) ?_);rintro i ⟨hi,hall⟩ N Q hN hQ;by_cases hb:i<s.size
    ·obtain⟨hx1,hx2⟩:=fe hb;have hok:okAt s i=(cE (bL s i)||(decide (i≠0)&&(decide (48≤bL s i)&&decide (bL s i≤57)))):=rfl;obtain⟨c,hc⟩:∃c,c=bL s i:=⟨_,rfl⟩;rw[←hc]at hx2 hok
     rcases jg c with⟨h1,h2,h⟩ | ⟨h1,h2,h3,h4,h5,h⟩ | ⟨h1,h2,h3,h⟩ | ⟨h1,h2,h3,h4,h⟩ | ⟨h1,h2,h3,h4,h⟩ | ⟨h1,h2,h3,h⟩
     ·rw[h,rT]at hok;refine wx ?_;simp -dsimp[hb,hx1,hx2,h1,h2,aP i (by unfold maxLen at hsz;omega)];refine hN (i+1) _ _ ⟨by omega,bt hall hok⟩ (by omega) ?_ ⟨[],?_⟩ ?_ ?_<;>simp[or_imp,forall_and,L1,aQ]
     ·by_cases hi0:i=0
      ·subst hi0;rw[h,pr,decide_eq_false (by simp),pF]at hok;refine wx ?_;simp -dsimp[hb,hx1,hx2,h1,h2,h3,h4,h5];refine hQ _ _ _ ?_;simp -dsimp[];exact⟨_,hb,hok⟩
      ·rw[h,pr,decide_eq_true hi0,pE,decide_eq_false (show ¬c≤57 by omega),rD]at hok;refine wx ?_;simp -dsimp[hb,hx1,hx2,h1,h2,h3,h4,h5,hi0,show ¬c<48 by omega,show 57<c by omega];refine hQ _ _ _ ?_;simp -dsimp[];exact⟨_,hb,hok⟩
     ·rw[h,rT]at hok;refine wx ?_;simp -dsimp[hb,hx1,hx2,h1,h2,h3,aP i (by unfold maxLen at hsz;omega)];refine hN (i+1) _ _ ⟨by omega,bt hall hok⟩ (by omega) ?_ ⟨[],?_⟩ ?_ ?_<;>simp[or_imp,forall_and,L1,aQ]
     ·rw[h,rT]at hok;refine wx ?_;simp -dsimp[hb,hx1,hx2,h1,h2,h3,h4,aP i (by unfold maxLen at hsz;omega)];refine hN (i+1) _ _ ⟨by omega,bt hall hok⟩ (by omega) ?_ ⟨[],?_⟩ ?_ ?_<;>simp[or_imp,forall_and,L1,aQ]
     ·by_cases hi0:i=0
      ·subst hi0;rw[h,pr,decide_eq_false (by simp),pF]at hok;refine wx ?_;simp -dsimp[hb,hx1,hx2,h1,h2,h3,h4];refine hQ _ _ _ ?_;simp -dsimp[];exact⟨_,hb,hok⟩
      ·rw[h,pr,decide_eq_true hi0,pE,decide_eq_false (show ¬c≤57 by omega),rD]at hok;refine wx ?_;simp -dsimp[hb,hx1,hx2,h1,h2,h3,h4,hi0,show ¬c<48 by omega,show 57<c by omega];refine hQ _ _ _ ?_;simp -dsimp[];exact⟨_,hb,hok⟩
     ·by_cases hi0:i=0
      ·subst hi0;rw[h,pr,decide_eq_false (by simp),pF]at hok;refine wx ?_;simp -dsimp[hb,hx1,hx2,h1,h2,h3];refine hQ _ _ _ ?_;simp -dsimp[];exact⟨_,hb,hok⟩
      ·by_cases h48:c<48
       ·rw[h,pr,decide_eq_false (show ¬48≤c by omega),pF,rD]at hok;refine wx ?_;simp -dsimp[hb,hx1,hx2,h1,h2,h3,hi0,h48];refine hQ _ _ _ ?_;simp -dsimp[];exact⟨_,hb,hok⟩
       ·by_cases h57:57<c
        ·rw[h,pr,decide_eq_true hi0,pE,decide_eq_false (show ¬c≤57 by omega),rD]at hok;refine wx ?_;simp -dsimp[hb,hx1,hx2,h1,h2,h3,hi0,h48,h57];refine hQ _ _ _ ?_;simp -dsimp[];exact⟨_,hb,hok⟩
        ·rw[h,pr,decide_eq_true hi0,pE,decide_eq_true (show c≤57 by omega),decide_eq_true (show 48≤c by omega),Bool.and_true]at hok;refine wx ?_;simp -dsimp[hb,hx1,hx2,h1,h2,h3,hi0,h48,h57,aP i (by unfold maxLen at hsz;omega)];refine hN (i+1) _ _ ⟨by omega,bt hall hok⟩ (by omega) ?_ ⟨[],?_⟩ ?_ ?_<;>simp[or_imp,forall_and,L1,aQ]
    ·obtain rfl:i=s.size:=by omega
     refine wx ?_;simp -dsimp[hb];refine hQ _ _ _ ?_;simp -dsimp[];simpa using hall
   ·rw[show bT s=false by simp[bT,hnl]];refine sPx Tryz.func70 rfl rfl ?_;simp -dsimp[Tryz.f70,oE,h0,hnl,show ¬(24:Int)<s.size by omega]
  ·rw[show bT s=false by simp[bT,h24]];refine sPx Tryz.func70 rfl rfl ?_;simp -dsimp[Tryz.f70,oE,h0,show(24:Int)<s.size by omega]
theorem mh(s:ByteArray)(hsz:s.size≤maxLen):aJ Tryz.prog 119 [.str s] fun r=>r = .bool (bT s):=by
 by_cases h0:s.toList=[]
 ·rw[show bT s=false by simp[bT,h0]];have h00:=(ba_nil s).1 h0;refine sPx Tryz.func119 rfl rfl ?_;simp -dsimp[Tryz.f119,oE,h00]
 ·have h00:¬s.size=0:=fun h=>h0 ((ba_nil s).2 h)
  have hpos:0<s.size:=by omega
  obtain⟨hx1,hx2⟩:=fe hpos;have hl0:=mw (bL s 0);rw[←hx2]at hl0;by_cases h24:s.size≤24
  ·cases hlt:cE (bL s 0)
   ·have hok0:okAt s 0=false:=by unfold okAt;rw[hlt];simp
    rw[show bT s=false by unfold bT;rw[allno hpos hok0,rD]];rw[hx2,hlt]at hl0;rw[←hx2]at hl0;refine sPx Tryz.func119 rfl rfl ?_;simp -dsimp[Tryz.f119,oE,h00,show ¬(24:Int)<s.size by omega,hx1];refine cPx (hl0) (by simp) ?_;simp -dsimp[]
   ·rw[hx2,hlt]at hl0;rw[←hx2]at hl0;cases hnl:(s.toList == [110,117,108,108])
    ·rw[show bT s=(oM s.size).all (okAt s) by simp[bT,h0,h24,hnl]];refine sPx Tryz.func119 rfl rfl ?_;simp -dsimp[Tryz.f119,oE,h00,show ¬(24:Int)<s.size by omega,hx1];refine cPx (hl0) (by simp) ?_;simp -dsimp[hnl];refine aI (W_loopM 45 0x1fffffc0000c (by simp[mB]<;>rfl) (σ:=Nat) (fun i=>i≤s.size∧(oM i).all (okAt s)=true) (fun i=>s.size-i) (fun i=>[(3,.int .i64 i)]) (fun _=>[]) 0 ⟨by omega,rfl⟩ (by simp) rfl (by simp) ?_);rintro i ⟨hi,hall⟩ N Q hN hQ;by_cases hb:i<s.size
     ·obtain⟨hy1,hy2⟩:=fe hb;have hok:okAt s i=(cE (bL s i)||(decide (i≠0)&&(decide (48≤bL s i)&&decide (bL s i≤57)))):=rfl;obtain⟨c,hc⟩:∃c,c=bL s i:=⟨_,rfl⟩;rw[←hc]at hy2 hok;have hlc:=mw c;cases h:cE c
      ·have hi0:¬i=0:=fun e=>by subst e;rw[←hc]at hlt;rw[hlt]at h;cases h
       rw[h]at hlc;rw[h,pr,decide_eq_true hi0,pE]at hok;by_cases h48:c<48
       ·rw[decide_eq_false (show ¬48≤c by omega),pF]at hok;refine wx ?_;simp -dsimp[hb,hy1,hy2];refine cPx (hlc) (by simp) ?_;simp -dsimp[hb,hy1,hy2,h48];refine hQ _ _ _ ?_;simp -dsimp[];exact⟨_,hb,hok⟩
       ·by_cases h57:57<c
        ·rw[decide_eq_false (show ¬c≤57 by omega),rD]at hok;refine wx ?_;simp -dsimp[hb,hy1,hy2];refine cPx (hlc) (by simp) ?_;simp -dsimp[hb,hy1,hy2,h48,h57];refine hQ _ _ _ ?_;simp -dsimp[];exact⟨_,hb,hok⟩
        ·rw[decide_eq_true (show c≤57 by omega),decide_eq_true (show 48≤c by omega),Bool.and_true]at hok;refine wx ?_;simp -dsimp[hb,hy1,hy2];refine cPx (hlc) (by simp) ?_;simp -dsimp[hb,hy1,hy2,h48,h57,aP i (by unfold maxLen at hsz;omega)];refine hN (i+1) _ _ ⟨by omega,bt hall hok⟩ (by omega) ?_ ⟨[],?_⟩ ?_ ?_<;>simp[or_imp,forall_and,L1,aQ]
      ·rw[h]at hlc;rw[h,rT]at hok;refine wx ?_;simp -dsimp[hb,hy1,hy2];refine cPx (hlc) (by simp) ?_;simp -dsimp[aP i (by unfold maxLen at hsz;omega)];refine hN (i+1) _ _ ⟨by omega,bt hall hok⟩ (by omega) ?_ ⟨[],?_⟩ ?_ ?_<;>simp[or_imp,forall_and,L1,aQ]
     ·obtain rfl:i=s.size:=by omega
      refine wx ?_;simp -dsimp[hb];refine hQ _ _ _ ?_;simp -dsimp[];simpa using hall
    ·rw[show bT s=false by simp[bT,hnl]];refine sPx Tryz.func119 rfl rfl ?_;simp -dsimp[Tryz.f119,oE,h00,show ¬(24:Int)<s.size by omega,hx1];refine cPx (hl0) (by simp) ?_;simp -dsimp[hnl]
  ·rw[show bT s=false by simp[bT,h24]];refine sPx Tryz.func119 rfl rfl ?_;simp -dsimp[Tryz.f119,oE,h00,show(24:Int)<s.size by omega]
def LS(f:Bool)(ss:List ByteArray):V:=.lst 1 f (ss.map V.str)
@[simp] theorem LS_pure (f:Bool) (ss:List ByteArray):AM.Pure (LS f ss):=by simp[LS]
@[simp] theorem pure_takeS (i:Nat) (ss:List ByteArray):(∀x,x∈qi i (List.map V.str ss)→AM.Pure x)↔True:=iff_true_intro fun x hx=>by
 obtain⟨s,_,rfl⟩:=List.mem_map.1 (pQ hx);exact .str s
def ixS(ss:List ByteArray)(x:ByteArray)(i:Nat):Int:=if h:i<ss.length then(if(x.toList == ss[i].toList)=true then(i:Int) else ixS ss x (i+1)) else -1
termination_by ss.length-i
def memS(ss:List ByteArray)(x:ByteArray):Bool:=ss.any fun e=>x.toList == e.toList
theorem ixS_mem(ss:List ByteArray)(x:ByteArray)(i:Nat):decide (0≤ixS ss x i)=memS (ss.drop i) x:=by
 unfold memS
 fun_induction ixS ss x i with
 | case1 i h h0=>rw[oK h,qW,h0];simp
 | case2 i h h0 ih=>rw[oK h,qW,ih];simp[h0]
 | case3 i h=>rw[oV (by omega)];rfl
theorem indexS(ss:List ByteArray)(x:ByteArray)(f:Bool)(hl:ss.length≤1000000):aJ Tryz.prog 133 [LS f ss,.str x] fun r=>r = .int .i64 (ixS ss x 0):=by
 refine sPx Tryz.func133 rfl rfl ?_;simp -dsimp[Tryz.f133,oE,LS];refine aI (W_loopM 19 0x7ff30 (by simp[mB]<;>rfl) (σ:=Nat) (fun i=>ixS ss x i=ixS ss x 0) (fun i=>ss.length-i) (fun i=>[(8,.int .i64 i)]) (fun _=>[]) 0 rfl (by simp) rfl (by simp) ?_);intro i hx N Q hN hQ;by_cases hb:i<ss.length
 ·rw[ixS,dif_pos hb]at hx;cases hq:(x.toList == ss[i].toList)
  ·rw[hq,if_neg (by simp)]at hx;refine wx ?_;simp -dsimp[hb,hq];simp -dsimp[aP i (by omega)];refine hN (i+1) _ _ hx (by omega) (by simp) ⟨[],rfl⟩ (by simp) (by simp)
  ·rw[hq,if_pos rfl]at hx;refine wx ?_;simp -dsimp[hb,hq];refine hQ _ _ _ ?_;simp -dsimp[];exact hx
 ·rw[ixS,dif_neg hb]at hx;refine wx ?_;simp -dsimp[hb];refine hQ _ _ _ ?_;simp -dsimp[];exact hx
theorem containsS(ss:List ByteArray)(x:ByteArray)(f:Bool)(hl:ss.length≤1000000):aJ Tryz.prog 71 [LS f ss,.str x] fun r=>r = .bool (memS ss x):=by
 have h0:=ixS_mem ss x 0;rw[pC]at h0;refine sPx Tryz.func71 rfl rfl ?_;simp -dsimp[Tryz.f71,oE];refine cPx (indexS ss x f hl) (by simp) ?_;simp -dsimp[];rw[←h0]
theorem beq_comm'(a b:List UInt8):(a == b)=(b == a):=by rw[qS,beq_iff_eq,beq_iff_eq];exact eq_comm
theorem attrS(ss:List ByteArray)(x:ByteArray)(f:Bool)(hl:ss.length≤1000000):aJ Tryz.prog 195 [LS f ss,.str x] fun r=>r = .int .i64 (ixS ss x 0):=by
 refine sPx Tryz.func195 rfl rfl ?_;simp -dsimp[Tryz.f195,oE,LS];refine aI (W_loopM 19 0x7fff0 (by simp[mB]<;>rfl) (σ:=Nat) (fun i=>ixS ss x i=ixS ss x 0) (fun i=>ss.length-i) (fun i=>[(5,.int .i64 i)]) (fun _=>[]) 0 rfl (by simp) rfl (by simp) ?_);intro i hx N Q hN hQ;by_cases hb:i<ss.length
 ·rw[ixS,dif_pos hb,beq_comm']at hx;cases hq:(ss[i].toList == x.toList)
  ·rw[hq,if_neg (by simp)]at hx;refine wx ?_;simp -dsimp[hb,hq];simp -dsimp[aP i (by omega)];refine hN (i+1) _ _ hx (by omega) (by simp) ⟨[],rfl⟩ (by simp) (by simp)
  ·rw[hq,if_pos rfl]at hx;refine wx ?_;simp -dsimp[hb,hq];refine hQ _ _ _ ?_;simp -dsimp[];exact hx
 ·rw[ixS,dif_neg hb]at hx;refine wx ?_;simp -dsimp[hb];refine hQ _ _ _ ?_;simp -dsimp[];exact hx
def sAt(ss:List ByteArray)(i:Nat):ByteArray:=ss.getD i oF
def nmAt(ss:List ByteArray)(i:Nat):Bool:=bT (sAt ss i)&&!memS (ss.take i) (sAt ss i)
def ec(ss:List ByteArray):Bool:=(oM ss.length).all (nmAt ss)
theorem names03(ss:List ByteArray)(f:Bool)(hl:ss.length≤1000000)(hs:∀s∈ss,s.size≤maxLen):aJ Tryz.prog 120 [LS f ss] fun r=>r = .bool (ec ss):=by
 unfold ec;refine sPx Tryz.func120 rfl rfl ?_;simp -dsimp[Tryz.f120,oE,LS];refine aI (W_loopM 27 0x7fffffc (by simp[mB]<;>rfl) (σ:=Nat) (fun i=>i≤ss.length∧(oM i).all (nmAt ss)=true) (fun i=>ss.length-i) (fun i=>[(3,.int .i64 i)]) (fun _=>[]) 0 ⟨by omega,rfl⟩ (by simp) rfl (by simp) ?_);rintro i ⟨hi,hall⟩ N Q hN hQ;by_cases hb:i<ss.length
 ·have hsi:sAt ss i=ss[i]:=by simp[sAt,hb]
  have hok:nmAt ss i=(bT ss[i]&&!memS (ss.take i) ss[i]):=by unfold nmAt;rw[hsi]
  have hc1:=mh ss[i] (hs _ (oI hb));have hc2:=attrS (ss.take i) ss[i] (f&&i == ss.length) (by simp;omega);have hm:=ixS_mem (ss.take i) ss[i] 0;rw[pC]at hm;simp only[LS,qf]at hc2;cases h1:bT ss[i]
  ·rw[h1,pF]at hok;rw[h1]at hc1;refine wx ?_;simp -dsimp[hb];refine .inr ⟨aS (by kernel_rfl),?_⟩;refine az _ (aT (hc1) (by simp)) ?_;simp -dsimp[];refine hQ _ _ _ ?_;simp -dsimp[];exact⟨_,hb,hok⟩
  ·rw[h1,pE]at hok;rw[h1]at hc1;cases h2:memS (ss.take i) ss[i]
   ·rw[h2]at hok hm;have hneg:=of_decide_eq_false hm;refine wx ?_;simp -dsimp[hb];refine .inr ⟨aS (by kernel_rfl),?_⟩;refine az _ (aT (hc1) (by simp)) ?_;simp -dsimp[hb,show i≤ss.length by omega];refine az _ (aT (hc2) (by simp)) ?_;simp -dsimp[show ¬0≤ixS (ss.take i) ss[i] 0 by omega,aP i (by omega)];refine hN (i+1) _ _ ⟨by omega,bt hall (by rw[hok];rfl)⟩ (by omega) ?_ ⟨[],?_⟩ ?_ ?_<;>simp[or_imp,forall_and,L1,aQ]
   ·rw[h2]at hok hm;have hneg:=of_decide_eq_true hm;refine wx ?_;simp -dsimp[hb];refine .inr ⟨aS (by kernel_rfl),?_⟩;refine az _ (aT (hc1) (by simp)) ?_;simp -dsimp[hb,show i≤ss.length by omega];refine az _ (aT (hc2) (by simp)) ?_;simp -dsimp[hneg];refine hQ _ _ _ ?_;simp -dsimp[];exact⟨_,hb,hok⟩
 ·obtain rfl:i=ss.length:=by omega
  refine wx ?_;simp -dsimp[hb];refine hQ _ _ _ ?_;simp -dsimp[];simpa using hall
structure Vl where
 k:Int
 n:Int
 s:ByteArray
def aF(v:Vl):V:=.agg [.int .i64 v.k,.int .i64 v.n,.str v.s]
def LV(f:Bool)(vs:List Vl):V:=.lst 3 f (vs.map aF)
@[simp] theorem encV_pure (v:Vl):AM.Pure (aF v):=by simp[aF]
@[simp] theorem LV_pure (f:Bool) (vs:List Vl):AM.Pure (LV f vs):=by simp[LV]
@[simp] theorem encV_oneV (v:Vl):cT (aF v)=true:=rfl
def aW(v:Vl):Bool :=
 if v.k=0 then decide (v.n=0)&&v.s.toList.isEmpty else if v.k=1 then v.s.toList.isEmpty else
 if v.k=2 then decide (v.n=0)&&decide (v.s.size≤200) else decide (v.k=3)&&(decide (1≤v.n)&&v.s.toList.isEmpty)
theorem valid01(v:Vl):aJ Tryz.prog 196 [aF v] fun r=>r = .bool (aW v):=by
 unfold aW;by_cases h0:v.k=0
 ·by_cases hn:v.n=0
  ·rw[if_pos h0,decide_eq_true hn,pE];refine sPx Tryz.func196 rfl rfl ?_;simp -dsimp[Tryz.f196,oE,aF,h0,hn]
  ·rw[if_pos h0,decide_eq_false hn,pF];refine sPx Tryz.func196 rfl rfl ?_;simp -dsimp[Tryz.f196,oE,aF,h0,hn]
 ·rw[if_neg h0];by_cases h1:v.k=1
  ·rw[if_pos h1];refine sPx Tryz.func196 rfl rfl ?_;simp -dsimp[Tryz.f196,oE,aF,h1]
  ·rw[if_neg h1];by_cases h2:v.k=2
   ·rw[if_pos h2];by_cases hn:v.n=0
    ·rw[decide_eq_true hn,pE];by_cases hz:v.s.size≤200
     ·rw[decide_eq_true hz];refine sPx Tryz.func196 rfl rfl ?_;simp -dsimp[Tryz.f196,oE,aF,h2,hn,show(v.s.size:Int)≤200 by omega]
     ·rw[decide_eq_false hz];refine sPx Tryz.func196 rfl rfl ?_;simp -dsimp[Tryz.f196,oE,aF,h2,hn,show ¬(v.s.size:Int)≤200 by omega]
    ·rw[decide_eq_false hn,pF];refine sPx Tryz.func196 rfl rfl ?_;simp -dsimp[Tryz.f196,oE,aF,h2,hn]
   ·rw[if_neg h2];by_cases h3:v.k=3
    ·rw[decide_eq_true h3,pE];by_cases hn:1≤v.n
     ·rw[decide_eq_true hn,pE];refine sPx Tryz.func196 rfl rfl ?_;simp -dsimp[Tryz.f196,oE,aF,h3,hn]
     ·rw[decide_eq_false hn,pF];refine sPx Tryz.func196 rfl rfl ?_;simp -dsimp[Tryz.f196,oE,aF,h3,hn]
    ·rw[decide_eq_false h3,pF];refine sPx Tryz.func196 rfl rfl ?_;simp -dsimp[Tryz.f196,oE,aF,h0,h1,h2,h3]
theorem cG(v:Vl):aJ Tryz.prog 136 [aF v] fun r=>r = .bool (aW v):=by
 unfold aW;by_cases h0:v.k=0
 ·by_cases hn:v.n=0
  ·rw[if_pos h0,decide_eq_true hn,pE];refine sPx Tryz.func136 rfl rfl ?_;simp -dsimp[Tryz.f136,oE,aF,h0,hn]
  ·rw[if_pos h0,decide_eq_false hn,pF];refine sPx Tryz.func136 rfl rfl ?_;simp -dsimp[Tryz.f136,oE,aF,h0,hn]
 ·rw[if_neg h0];by_cases h1:v.k=1
  ·rw[if_pos h1];refine sPx Tryz.func136 rfl rfl ?_;simp -dsimp[Tryz.f136,oE,aF,h1]
  ·rw[if_neg h1];by_cases h2:v.k=2
   ·rw[if_pos h2];by_cases hn:v.n=0
    ·rw[decide_eq_true hn,pE];by_cases hz:v.s.size≤200
     ·rw[decide_eq_true hz];refine sPx Tryz.func136 rfl rfl ?_;simp -dsimp[Tryz.f136,oE,aF,h2,hn,show(v.s.size:Int)≤200 by omega]
     ·rw[decide_eq_false hz];refine sPx Tryz.func136 rfl rfl ?_;simp -dsimp[Tryz.f136,oE,aF,h2,hn,show ¬(v.s.size:Int)≤200 by omega]
    ·rw[decide_eq_false hn,pF];refine sPx Tryz.func136 rfl rfl ?_;simp -dsimp[Tryz.f136,oE,aF,h2,hn]
   ·rw[if_neg h2];by_cases h3:v.k=3
    ·rw[decide_eq_true h3,pE];by_cases hn:1≤v.n
     ·rw[decide_eq_true hn,pE];refine sPx Tryz.func136 rfl rfl ?_;simp -dsimp[Tryz.f136,oE,aF,h3,hn]
     ·rw[decide_eq_false hn,pF];refine sPx Tryz.func136 rfl rfl ?_;simp -dsimp[Tryz.f136,oE,aF,h3,hn]
    ·rw[decide_eq_false h3,pF];refine sPx Tryz.func136 rfl rfl ?_;simp -dsimp[Tryz.f136,oE,aF,h0,h1,h2,h3]
theorem any_drop(p:Vl→Bool)(vs:List Vl)(i:Nat)(h:i<vs.length):(vs.drop i).all p=(p vs[i]&&(vs.drop (i+1)).all p):=by rw[oK h];rfl
theorem valids01(vs:List Vl)(f:Bool)(hl:vs.length≤1000000):aJ Tryz.prog 121 [LV f vs] fun r=>r = .bool (vs.all aW):=by
 obtain⟨E,hE⟩:∃E,E=vs.all aW:=⟨_,rfl⟩;rw[←hE];refine sPx Tryz.func121 rfl rfl ?_;simp -dsimp[Tryz.f121,oE,LV];refine aI (W_loopM 16 0xfffc (by simp[mB]<;>rfl) (σ:=Nat) (fun i=>(vs.drop i).all aW=E) (fun i=>vs.length-i) (fun i=>[(3,.int .i64 i)]) (fun _=>[]) 0 (by rw[pC,hE]) (by simp) rfl (by simp) ?_);rintro i hx N Q hN hQ;by_cases hb:i<vs.length
 ·rw[any_drop _ _ _ hb]at hx;have hc:=valid01 vs[i];cases h1:aW vs[i]
  ·rw[h1]at hc;rw[h1,pF]at hx;refine wx ?_;simp -dsimp[hb];refine cPx (hc) (by simp) ?_;simp -dsimp[];refine hQ _ _ _ ?_;simp -dsimp[];simpa using hx
  ·rw[h1]at hc;rw[h1,pE]at hx;refine wx ?_;simp -dsimp[hb];refine cPx (hc) (by simp) ?_;simp -dsimp[aP i (by omega)];refine hN (i+1) _ _ hx (by omega) (by simp) ⟨[],rfl⟩ (by simp) (by simp)
 ·rw[oV (by omega)]at hx;refine wx ?_;simp -dsimp[hb];refine hQ _ _ _ ?_;simp -dsimp[];simpa using hx
def ixV(p:Vl→Bool)(vs:List Vl)(i:Nat):Int:=if h:i<vs.length then(if p vs[i] then(i:Int) else ixV p vs (i+1)) else -1
termination_by vs.length-i
theorem ixV_any(p:Vl→Bool)(vs:List Vl)(i:Nat):decide (0≤ixV p vs i)=(vs.drop i).any p:=by
 fun_induction ixV p vs i with
 | case1 i h h0=>rw[oK h,qW,h0];simp
 | case2 i h h0 ih=>rw[oK h,qW,ih];simp[h0]
 | case3 i h=>rw[oV (by omega)];rfl
theorem idxFuncV(H:List B)(fv:V)(p:Vl→Bool)(vs:List Vl)(g:Bool)(hes:vs.length≤1000000)(hH:∀bl∈H,rbB H.length bl)(hfv:rb H.length fv)
  (hp:∀m∈vs,aL Tryz.prog fv [aF m] H fun r H'=>r = .bool (p m)∧H'=H):aU Tryz.prog 204 [LV g vs,fv] H fun r H'=>r = .int .i64 (ixV p vs 0)∧H'=H:=by
 refine aE tok Tryz.func204 rfl rfl ?_;refine wx ?_;simp -dsimp[Tryz.f204,oE,LV];refine aI (W_loopM 19 0x7ff30 (by simp[mB]<;>rfl) (σ:=Nat) (fun i=>ixV p vs i=ixV p vs 0) (fun i=>vs.length-i) (fun i=>[(8,.int .i64 i)]) (fun _=>H) 0 rfl (by simp) rfl (by simp) ?_);intro i hx N Q hN hQ;by_cases hb:i<vs.length
 ·rw[ixV,dif_pos hb]at hx;have hc:=hp vs[i] (oI hb);cases hq:p vs[i]
  ·rw[hq]at hc hx;refine wx ?_;simp -dsimp[hb];refine hc.mono ?_;rintro r H' ⟨rfl,rfl⟩;simp -dsimp[aP i (by omega)];refine hN (i+1) _ _ (by simpa using hx) (by omega) (by simp) ⟨[],by simp⟩ (by simp;exact hfv) hH
  ·rw[hq]at hc hx;refine wx ?_;simp -dsimp[hb];refine hc.mono ?_;rintro r H' ⟨rfl,rfl⟩;simp -dsimp[];refine hQ _ _ _ ?_;simp -dsimp[];simpa using hx
 ·rw[ixV,dif_neg hb]at hx;refine wx ?_;simp -dsimp[hb];refine hQ _ _ _ ?_;simp -dsimp[];simpa using hx
theorem kn(H:List B)(fv:V)(p:Vl→Bool)(vs:List Vl)(g:Bool)(hes:vs.length≤1000000)(hH:∀bl∈H,rbB H.length bl)(hfv:rb H.length fv)
  (hp:∀m∈vs,aL Tryz.prog fv [aF m] H fun r H'=>r = .bool (p m)∧H'=H):aU Tryz.prog 134 [LV g vs,fv] H fun r H'=>r = .bool (vs.any p)∧H'=H:=by
 have h0:=ixV_any p vs 0;rw[pC]at h0;have hc:=idxFuncV H fv p vs g hes hH hfv hp;refine aE tok Tryz.func134 rfl rfl ?_;refine wx ?_;simp -dsimp[Tryz.f134,oE];refine aL.mono (K:=fun r H'=>r = .int .i64 (ixV p vs 0)∧H'=H) hc ?_;rintro r H' ⟨rfl,rfl⟩;simp -dsimp[];rw[←h0]
theorem notValid(v:Vl):aJ Tryz.prog 135 [aF v] fun r=>r = .bool (!aW v):=by
 have hc:=cG v;simp only[aF]at hc;refine sPx Tryz.func135 rfl rfl ?_;simp -dsimp[Tryz.f135,oE,aF];refine cPx (hc) (by simp) ?_;simp -dsimp[]
theorem validVals(vs:List Vl)(f:Bool)(hl:vs.length≤1000000):aJ Tryz.prog 72 [LV f vs] fun r=>r = .bool (vs.all aW):=by
 have hc:=kn [] (.fn 135 []) (fun v=>!aW v) vs f hl (by simp) (by simp) (fun m _=>aT (notValid m) (by simp))
 have he:vs.all aW = !vs.any fun v=>!aW v:=by
  induction vs with
  | nil=>rfl
  | cons v vs ih=>simp only[rh,qW,Bool.not_or,Bool.not_not];rw[ih (by simp at hl;omega) (kn [] (.fn 135 []) (fun v=>!aW v) vs f (by simp at hl;omega) (by simp) (by simp) (fun m _=>aT (notValid m) (by simp)))]
 rw[he];refine sPx Tryz.func72 rfl rfl ?_;simp -dsimp[Tryz.f72,oE];refine aL.mono (K:=fun r H'=>r = .bool (vs.any fun v=>!aW v)∧H'=[]) hc ?_;rintro r H' ⟨rfl,rfl⟩;simp -dsimp[]
structure Rw where
 id:Int
 vals:List Vl
structure Tb where
 name:ByteArray
 attrs:List ByteArray
 rows:List Rw
def aC(r:Rw):V:=.agg [.int .i64 r.id,LV false r.vals]
def LR(g:Bool)(rs:List Rw):V:=.lst 2 g (rs.map aC)
def aD(f g:Bool)(t:Tb):V:=.agg [.str t.name,LS f t.attrs,LR g t.rows]
@[simp] theorem encRw_pure (r:Rw):AM.Pure (aC r):=by simp[aC]
@[simp] theorem LR_pure (g:Bool) (rs:List Rw):AM.Pure (LR g rs):=by simp[LR]
@[simp] theorem encTb_pure (f g:Bool) (t:Tb):AM.Pure (aD f g t):=by simp[aD]
@[simp] theorem encRw_oneV (r:Rw):cT (aC r)=true:=rfl
def bj(n:Nat):Int→List Rw→Int
 | _,[]=>0
 | last,r::rs=>if r.id≤last then 1 else if r.vals.length≠n then 6 else if r.vals.all aW then bj n r.id rs else 1
def aG(t:Tb):Int:=if bT t.name then(if 16<t.attrs.length∨1000<t.rows.length then 3 else if ec t.attrs then bj t.attrs.length 0 t.rows else 1) else 1
structure TbOk (t:Tb):Prop where
 name:t.name.size≤maxLen
 attrs:t.attrs.length≤1000000
 rows:t.rows.length≤1000000
 strs:∀s∈t.attrs,s.size≤maxLen
theorem valid03(t:Tb)(f g:Bool)(h:TbOk t):aJ Tryz.prog 65 [aD f g t] fun r=>r = .int .i64 (aG t):=by
 obtain⟨hn,ha,hr,hs⟩:=h;have hc1:=mh t.name hn;cases h1:bT t.name
 ·rw[h1]at hc1;rw[show aG t=1 by simp[aG,h1]];refine sPx Tryz.func65 rfl rfl ?_;simp -dsimp[Tryz.f65,oE,aD,LR,LS];refine cPx (hc1) (by simp) ?_;simp -dsimp[]
 ·rw[h1]at hc1;by_cases h2:16<t.attrs.length
  ·rw[show aG t=3 by simp[aG,h1,h2]];refine sPx Tryz.func65 rfl rfl ?_;simp -dsimp[Tryz.f65,oE,aD,LR,LS];refine cPx (hc1) (by simp) ?_;simp -dsimp[show(16:Int)<t.attrs.length by omega]
  ·by_cases h3:1000<t.rows.length
   ·rw[show aG t=3 by simp[aG,h1,h3]];refine sPx Tryz.func65 rfl rfl ?_;simp -dsimp[Tryz.f65,oE,aD,LR,LS];refine cPx (hc1) (by simp) ?_;simp -dsimp[show ¬(16:Int)<t.attrs.length by omega,show(1000:Int)<t.rows.length by omega]
   ·have hc2:=names03 t.attrs f ha hs;simp only[LS]at hc2;cases h4:ec t.attrs
    ·rw[h4]at hc2;rw[show aG t=1 by simp[aG,h1,h2,h3,h4]];refine sPx Tryz.func65 rfl rfl ?_;simp -dsimp[Tryz.f65,oE,aD,LR,LS];refine cPx (hc1) (by simp) ?_;simp -dsimp[show ¬(16:Int)<t.attrs.length by omega,show ¬(1000:Int)<t.rows.length by omega];refine cPx (hc2) (by simp) ?_;simp -dsimp[]
    ·rw[h4]at hc2
     have hE:bj t.attrs.length 0 t.rows=aG t:=by simp[aG,h1,h2,h3,h4]
     obtain⟨E,hEe⟩:∃E,E=aG t:=⟨_,rfl⟩;rw[←hEe]at hE ⊢;refine sPx Tryz.func65 rfl rfl ?_;simp -dsimp[Tryz.f65,oE,aD,LR,LS];refine cPx (hc1) (by simp) ?_;simp -dsimp[show ¬(16:Int)<t.attrs.length by omega,show ¬(1000:Int)<t.rows.length by omega];refine cPx (hc2) (by simp) ?_;simp -dsimp[];refine aI (W_loopM 53 0x1fffffff00003c (by simp[mB]<;>rfl) (σ:=Nat×Int) (fun p=>p.1≤t.rows.length∧bj t.attrs.length p.2 (t.rows.drop p.1)=E) (fun p=>t.rows.length-p.1) (fun p=>[(4,.int .i64 p.1),(3,.int .i64 p.2)]) (fun _=>[B.cells [.str t.name,LS f t.attrs,LR g t.rows]]) (0,0) ⟨by simp,hE⟩ (by simp) (by simp[LS,LR]) (by simp) ?_);rintro⟨i,last⟩ ⟨hi,hx⟩ N Q hN hQ;simp only at hi hx hN;by_cases hb:i<t.rows.length
     ·rw[oK hb]at hx;simp only[bj]at hx;by_cases h5:t.rows[i].id≤last
      ·rw[if_pos h5]at hx;refine wx ?_;simp -dsimp[hb,LS,LR,aC,h5,LV];refine hQ _ _ _ ?_;simp -dsimp[];exact hx
      ·rw[if_neg h5]at hx;by_cases h6:t.rows[i].vals.length=t.attrs.length
       ·rw[if_neg (fun h=>h h6)]at hx;have hc3:=valids01 t.rows[i].vals false (by omega);cases h7:t.rows[i].vals.all aW
        ·rw[h7]at hc3 hx;refine wx ?_;simp -dsimp[hb,LS,LR,aC,h5,LV,h6];simp only[LV]at hc3;refine cPx (hc3) (by simp) ?_;simp -dsimp[];refine hQ _ _ _ ?_;simp -dsimp[];simpa using hx
        ·rw[h7,if_pos rfl]at hx;rw[h7]at hc3;refine wx ?_;simp -dsimp[hb,LS,LR,aC,h5,LV,h6];simp only[LV]at hc3;refine cPx (hc3) (by simp) ?_;simp -dsimp[aP i (by omega)];refine hN (i+1,t.rows[i].id) _ _ ⟨by simp;omega,hx⟩ (by omega) ?_ ⟨[B.cells [.int .i64 t.rows[i].id,LV false t.rows[i].vals]],?_⟩ ?_ ?_<;>simp[or_imp,forall_and,L1,aQ,LS,LR,LV]
       ·rw[if_pos h6]at hx;refine wx ?_;simp -dsimp[hb,LS,LR,aC,h5,LV,show ¬(t.rows[i].vals.length:Int)=t.attrs.length by omega];refine hQ _ _ _ ?_;simp -dsimp[];exact hx
     ·rw[oV (by omega)]at hx;refine wx ?_;simp -dsimp[hb,LS,LR];refine hQ _ _ _ ?_;simp -dsimp[];exact hx
theorem cI(t:Tb)(f g:Bool)(h:TbOk t):aJ Tryz.prog 31 [aD f g t] fun r=>r = .int .i64 (aG t):=by
 obtain⟨hn,ha,hr,hs⟩:=h;have hc1:=mz t.name hn;cases h1:bT t.name
 ·rw[h1]at hc1;rw[show aG t=1 by simp[aG,h1]];refine sPx Tryz.func31 rfl rfl ?_;simp -dsimp[Tryz.f31,oE,aD,LR,LS];refine cPx (hc1) (by simp) ?_;simp -dsimp[]
 ·rw[h1]at hc1;by_cases h2:16<t.attrs.length
  ·rw[show aG t=3 by simp[aG,h1,h2]];refine sPx Tryz.func31 rfl rfl ?_;simp -dsimp[Tryz.f31,oE,aD,LR,LS];refine cPx (hc1) (by simp) ?_;simp -dsimp[show(16:Int)<t.attrs.length by omega]
  ·by_cases h3:1000<t.rows.length
   ·rw[show aG t=3 by simp[aG,h1,h3]];refine sPx Tryz.func31 rfl rfl ?_;simp -dsimp[Tryz.f31,oE,aD,LR,LS];refine cPx (hc1) (by simp) ?_;simp -dsimp[show ¬(16:Int)<t.attrs.length by omega,show(1000:Int)<t.rows.length by omega]
   ·have hE:(if ec t.attrs then bj t.attrs.length 0 t.rows else 1)=aG t:=by simp[aG,h1,h2,h3]
    obtain⟨E,hEe⟩:∃E,E=aG t:=⟨_,rfl⟩;rw[←hEe]at hE ⊢;refine sPx Tryz.func31 rfl rfl ?_;simp -dsimp[Tryz.f31,oE,aD,LR,LS];refine cPx (hc1) (by simp) ?_;simp -dsimp[show ¬(16:Int)<t.attrs.length by omega,show ¬(1000:Int)<t.rows.length by omega];refine aI (W_loopM 42 0x3fffe00001c (by simp[mB]<;>rfl) (σ:=Nat) (fun i=>i≤t.attrs.length∧(oM i).all (nmAt t.attrs)=true) (fun i=>t.attrs.length-i) (fun i=>[(25,.int .i64 i)]) (fun _=>[B.cells [.str t.name,LS f t.attrs,LR g t.rows]]) 0 ⟨by omega,rfl⟩ (by simp) (by simp[LS,LR]) (by simp) ?_);rintro i ⟨hi,hall⟩ N Q hN hQ;by_cases hb:i<t.attrs.length
    ·have hsi:sAt t.attrs i=t.attrs[i]:=by simp[sAt,hb]
     have hok:nmAt t.attrs i=(bT t.attrs[i]&&!memS (t.attrs.take i) t.attrs[i]):=by unfold nmAt;rw[hsi]
     have hd1:=mz t.attrs[i] (hs _ (oI hb));have hd2:=containsS (t.attrs.take i) t.attrs[i] (f&&i == t.attrs.length) (by simp;omega);simp only[LS,qf]at hd2;cases h5:bT t.attrs[i]
     ·rw[h5,pF]at hok;rw[h5]at hd1;rw[show ec t.attrs=false from allno hb hok]at hE;refine wx ?_;simp -dsimp[hb,LS,LR];refine cPx (hd1) (by simp) ?_;simp -dsimp[];refine hQ _ _ _ ?_;simp -dsimp[];simpa using hE
     ·rw[h5,pE]at hok;rw[h5]at hd1;cases h6:memS (t.attrs.take i) t.attrs[i]
      ·rw[h6]at hd2 hok;refine wx ?_;simp -dsimp[hb,LS,LR];refine cPx (hd1) (by simp) ?_;simp -dsimp[show i≤t.attrs.length by omega];refine cPx (hd2) (by simp) ?_;simp -dsimp[aP i (by omega)];refine hN (i+1) _ _ ⟨by omega,bt hall (by rw[hok];rfl)⟩ (by omega) ?_ ⟨[],?_⟩ ?_ ?_<;>simp[or_imp,forall_and,L1,aQ,LS,LR]
      ·rw[h6]at hd2 hok;rw[show ec t.attrs=false from allno hb hok]at hE;refine wx ?_;simp -dsimp[hb,LS,LR];refine cPx (hd1) (by simp) ?_;simp -dsimp[show i≤t.attrs.length by omega];refine cPx (hd2) (by simp) ?_;simp -dsimp[];refine hQ _ _ _ ?_;simp -dsimp[];simpa using hE
    ·obtain rfl:i=t.attrs.length:=by omega
     rw[show ec t.attrs=true from hall,if_pos rfl]at hE;refine wx ?_;simp -dsimp[hb,LS,LR];refine hQ _ _ _ ?_;simp -dsimp[LS,LR];refine aI (W_loopM 70 0x3fffffe000000000a4 (by simp[mB]<;>rfl) (σ:=Nat×Int) (fun p=>p.1≤t.rows.length∧bj t.attrs.length p.2 (t.rows.drop p.1)=E) (fun p=>t.rows.length-p.1) (fun p=>[(45,.int .i64 p.1),(5,.int .i64 p.2)]) (fun _=>[B.cells [.str t.name,LS f t.attrs,LR g t.rows]]) (0,0) ⟨by simp,hE⟩ (by simp) (by simp[LS,LR]) (by simp) ?_);rintro⟨j,last⟩ ⟨hj,hx⟩ N2 Q2 hN2 hQ2;simp only at hj hx hN2;by_cases hjb:j<t.rows.length
     ·rw[oK hjb]at hx;simp only[bj]at hx;by_cases h5:t.rows[j].id≤last
      ·rw[if_pos h5]at hx;refine wx ?_;simp -dsimp[hjb,LS,LR,aC,h5,LV];refine hQ2 _ _ _ ?_;simp -dsimp[];exact hx
      ·rw[if_neg h5]at hx;by_cases h6:t.rows[j].vals.length=t.attrs.length
       ·rw[if_neg (fun h=>h h6)]at hx;have hc3:=validVals t.rows[j].vals false (by omega);simp only[LV]at hc3;cases h7:t.rows[j].vals.all aW
        ·rw[h7]at hc3 hx;refine wx ?_;simp -dsimp[hjb,LS,LR,aC,h5,LV,h6];refine cPx (hc3) (by simp) ?_;simp -dsimp[];refine hQ2 _ _ _ ?_;simp -dsimp[];simpa using hx
        ·rw[h7,if_pos rfl]at hx;rw[h7]at hc3;refine wx ?_;simp -dsimp[hjb,LS,LR,aC,h5,LV,h6];refine cPx (hc3) (by simp) ?_;simp -dsimp[aP j (by omega)];refine hN2 (j+1,t.rows[j].id) _ _ ⟨by simp;omega,hx⟩ (by omega) ?_ ⟨[B.cells [.int .i64 t.rows[j].id,LV false t.rows[j].vals]],?_⟩ ?_ ?_<;>simp[or_imp,forall_and,L1,aQ,LS,LR,LV]
       ·rw[if_pos h6]at hx;refine wx ?_;simp -dsimp[hjb,LS,LR,aC,h5,LV,show ¬(t.rows[j].vals.length:Int)=t.attrs.length by omega];refine hQ2 _ _ _ ?_;simp -dsimp[];exact hx
     ·rw[oV (by omega)]at hx;refine wx ?_;simp -dsimp[hjb,LS,LR];refine hQ2 _ _ _ ?_;simp -dsimp[];exact hx
structure TbC (t:Tb):Prop where
 ids:t.rows.Pairwise fun r s=>r.id<s.id
 pos:∀r∈t.rows,0<r.id
 len:∀r∈t.rows,r.vals.length=t.attrs.length
 val:∀r∈t.rows,r.vals.all aW=true
 wide:t.attrs.length≤16
theorem mV{n:Nat} : ∀{rs:List Rw} {last:Int},bj n last rs=0→(∀r∈rs,last<r.id)∧(rs.Pairwise fun r s=>r.id<s.id)∧(∀r∈rs,r.vals.length=n)∧∀r∈rs,r.vals.all aW=true
 | [],_,_=>by simp
 | r::rs,last,h=>by
  rw[bj]at h;split at h
  ·cases h
  ·rename_i h1;split at h
   ·cases h
   ·rename_i h2;split at h
    ·rename_i h3;obtain⟨a,b,c,d⟩:=mV h;refine⟨fun x hx=>?_,List.pairwise_cons.2 ⟨a,b⟩,fun x hx=>?_,fun x hx=>?_⟩
     ·rcases List.mem_cons.1 hx with rfl | hx
      ·omega
      ·have:=a x hx;omega
     ·rcases List.mem_cons.1 hx with rfl | hx
      ·simpa using h2
      ·exact c x hx
     ·rcases List.mem_cons.1 hx with rfl | hx
      ·exact h3
      ·exact d x hx
    ·cases h
theorem tbC{t:Tb}(h:aG t=0):TbC t:=by
 unfold aG at h;split at h
 ·split at h
  ·cases h
  ·rename_i h2;split at h
   ·obtain⟨a,b,c,d⟩:=mV h;exact⟨b,fun r hr=>a r hr,c,d,by omega⟩
   ·cases h
 ·cases h
def ofV(m:Int):Vl :=
 if m=0 then⟨1,0,oF⟩ else
 if m=1 then⟨1,1,oF⟩ else
 if m=2 then⟨1,2,oF⟩ else
 if m=3 then⟨0,0,oF⟩ else
 if m=4 then⟨2,0,⟨#[97]⟩⟩ else
 if m=5 then⟨2,0,⟨#[98]⟩⟩ else
 if m=6 then⟨2,0,oF⟩ else
 if m=7 then⟨3,1,oF⟩ else
 if m=8 then⟨1,-1,oF⟩ else
 if m=9 then⟨2,0,⟨#[97,98]⟩⟩ else
 if m=10 then⟨3,2,oF⟩ else
 ⟨1,7,oF⟩
def ofC(c:Int):Vl:=ofV (c.tmod 12)
theorem of01(c:Int):aJ Tryz.prog 30 [.int .u8 c] fun r=>r=aF (ofC c):=by
 unfold ofC;obtain⟨m,hm⟩:∃m,m=c.tmod 12:=⟨_,rfl⟩;rw[←hm];have hm:=hm.symm;by_cases h0:m=0
 ·have e:ofV m=ofV 0:=by rw[h0]
  rw[e];refine sPx Tryz.func30 rfl rfl ?_;simp -dsimp[Tryz.f30,oE,hm,h0];rfl
 by_cases h1:m=1
 ·have e:ofV m=ofV 1:=by rw[h1]
  rw[e];refine sPx Tryz.func30 rfl rfl ?_;simp -dsimp[Tryz.f30,oE,hm,h1];rfl
 by_cases h2:m=2
 ·have e:ofV m=ofV 2:=by rw[h2]
  rw[e];refine sPx Tryz.func30 rfl rfl ?_;simp -dsimp[Tryz.f30,oE,hm,h2];rfl
 by_cases h3:m=3
 ·have e:ofV m=ofV 3:=by rw[h3]
  rw[e];refine sPx Tryz.func30 rfl rfl ?_;simp -dsimp[Tryz.f30,oE,hm,h3];rfl
 by_cases h4:m=4
 ·have e:ofV m=ofV 4:=by rw[h4]
  rw[e];refine sPx Tryz.func30 rfl rfl ?_;simp -dsimp[Tryz.f30,oE,hm,h4];rfl
 by_cases h5:m=5
 ·have e:ofV m=ofV 5:=by rw[h5]
  rw[e];refine sPx Tryz.func30 rfl rfl ?_;simp -dsimp[Tryz.f30,oE,hm,h5];rfl
 by_cases h6:m=6
 ·have e:ofV m=ofV 6:=by rw[h6]
  rw[e];refine sPx Tryz.func30 rfl rfl ?_;simp -dsimp[Tryz.f30,oE,hm,h6];rfl
 by_cases h7:m=7
 ·have e:ofV m=ofV 7:=by rw[h7]
  rw[e];refine sPx Tryz.func30 rfl rfl ?_;simp -dsimp[Tryz.f30,oE,hm,h7];rfl
 by_cases h8:m=8
 ·have e:ofV m=ofV 8:=by rw[h8]
  rw[e];refine sPx Tryz.func30 rfl rfl ?_;simp -dsimp[Tryz.f30,oE,hm,h8];rfl
 by_cases h9:m=9
 ·have e:ofV m=ofV 9:=by rw[h9]
  rw[e];refine sPx Tryz.func30 rfl rfl ?_;simp -dsimp[Tryz.f30,oE,hm,h9];rfl
 by_cases h10:m=10
 ·have e:ofV m=ofV 10:=by rw[h10]
  rw[e];refine sPx Tryz.func30 rfl rfl ?_;simp -dsimp[Tryz.f30,oE,hm,h10];rfl
 have e:ofV m=⟨1,7,oF⟩:=by unfold ofV;simp[h0,h1,h2,h3,h4,h5,h6,h7,h8,h9,h10]
 rw[e];refine sPx Tryz.func30 rfl rfl ?_;simp -dsimp[Tryz.f30,oE,hm,h0,h1,h2,h3,h4,h5,h6,h7,h8,h9,h10];rfl
def lfB:V→V→Prop
 | x,y=>y=x∨(∃z xs,x = .lst z true xs∧y = .lst z false xs)∨(∃z,x = .nilS∧y = .lst z false [])
def LfL:List V→List V→Prop
 | [],[]=>True
 | x::xs,y::ys=>lfB x y∧LfL xs ys
 | _,_=>False
theorem LfL.len:∀{xs ys:List V},LfL xs ys→xs.length=ys.length
 | [],[],_=>rfl
 | [],_::_,h=>h.elim
 | _::_,[],h=>h.elim
 | _::_,_::_,h=>by simp[h.2.len]
theorem LfL.at_:∀{xs ys:List V},LfL xs ys→∀(i:Nat) x y,xs[i]?=some x→ys[i]?=some y→lfB x y
 | [],_,_,i,x,y,h,_=>by simp at h
 | _::_,[],h,_,_,_,_,_=>h.elim
 | a::xs,b::ys,h,0,x,y,h1,h2=>by simp at h1 h2;subst h1;subst h2;exact h.1
 | a::xs,b::ys,h,i+1,x,y,h1,h2=>h.2.at_ i x y (by simpa using h1) (by simpa using h2)
theorem lf_rel{s:AM.St}{x y:V}{u:Value}(h:Rel s x u)(hl:lfB x y):Rel s y u:=by
 rcases hl with rfl | ⟨z,xs,rfl,rfl⟩ | ⟨z,rfl,rfl⟩
 ·exact h
 ·cases h with
  | lst _ _ _ A cap b off u hcap hfull hA hz hcell hrel=>exact .lst z false xs A cap b off u hcap (fun h=>by cases h) hA hz hcell hrel
 ·cases h;exact bw z false none 0 (fun _=>rfl)
theorem lf_one{x y:V}(hl:lfB x y)(h:x.one=true):y.one=true:=by
 rcases hl with rfl | ⟨z,xs,rfl,rfl⟩ | ⟨z,rfl,rfl⟩
 ·exact h
 ·rfl
 ·rfl
theorem W_lf{P:Program}(k0:Nat)(fr' cs':List V){c:Code}{Q:Exit→List V→List B→Prop}{fr:List V}{H:List B}{cs:List V}(hk:H[k0]?=some (.cells cs))(ho:LfL fr fr')(hc:LfL cs cs')
  (h:W P c Q fr' (H.set k0 (.cells cs'))):W P c Q fr H:=by
 intro s a hA hg hf hd;obtain⟨rfl,hZ⟩:=hA;have hst:=bI (w:=s.w) (bl':=.cells cs') hg hk (lvC hk) trivial rfl rfl rfl (oJ _) (fun _ _ _=>rfl);have hl:=ho.len;have hlc:=hc.len
 have hgd:AM.Good (s.setB s.w k0 (.cells cs')):=by
  refine bQ hg hk (lvC hk) trivial rfl rfl rfl (oJ _) (fun _ _ _=>rfl) (fun hst=>?_);obtain⟨h1,vs,t,h2,h3,h4⟩:=hg.blk k0 _ hk;refine⟨fun d hd=>?_,vs,t,h2,by omega,fun i d u hd hu=>?_⟩
  ·obtain⟨i,hi⟩:=List.mem_iff_getElem?.1 hd;have hx:cs[i]?=some (cs[i]'(by have:=aB hi;omega)):=oG _;exact lf_one (hc.at_ i _ d hx hi) (h1 _ (oI _))
  ·have hx:cs[i]?=some (cs[i]'(by have:=aB hd;omega)):=oG _;exact(lf_rel (h4 i _ u hx hu) (hc.at_ i _ d hx hd)).step hst
 have:=h (s.setB s.w k0 (.cells cs')) a ⟨rfl,hZ.step hst⟩ hgd ⟨by rw[hf.len,hl],fun i v u hv hu=>by
  have hx:fr[i]?=some (fr[i]'(by have:=aB hv;omega)):=oG _
  exact(lf_rel (hf.rel i _ u hx hu) (ho.at_ i _ v hx hv)).step hst⟩ hd
 exact wp_mono this fun _ _ _ hl=>bO hst hl
theorem lfB_refl(x:V):lfB x x:=.inl rfl
theorem jf:∀xs:List V,LfL xs xs
 | []=>trivial
 | x::xs=>⟨lfB_refl x,jf xs⟩
structure Rcp where
 a:Int
 gap:Int
 rows:List (List Int)
def LU(xs:List Int):V:=.lst 1 false (xs.map encU)
def ax(f:Bool)(x:Rcp):V:=.agg [.int .u8 x.a,.int .u8 x.gap,.lst 1 f (x.rows.map LU)]
@[simp] theorem LU_pure (xs:List Int):AM.Pure (LU xs):=by simp[LU]
@[simp] theorem encRcp_pure (f:Bool) (x:Rcp):AM.Pure (ax f x):=by simp[ax]
def L8:List ByteArray:=[⟨#[97]⟩,⟨#[98]⟩,⟨#[99]⟩,⟨#[100]⟩,⟨#[101]⟩,⟨#[102]⟩,⟨#[103]⟩,⟨#[104]⟩]
def gY(cs:List Int)(k:Nat):List Vl:=(oM k).map fun j=>ofC (cs.getD j 0)
def wRow(gap:Int)(cs:List Int)(n i:Nat):Rw:=⟨1+(i:Int)*(1+gap.tmod 3),gY cs n⟩
def jN(x:Rcp)(n i:Nat):List Rw:=(oM i).map fun j=>wRow x.gap (x.rows.getD j []) n j
def wideT(x:Rcp)(n:Nat):Tb:=⟨⟨#[114]⟩,L8.take n,jN x n x.rows.length⟩
theorem wVals_succ(cs:List Int)(k:Nat):gY cs (k+1)=gY cs k++[ofC (cs.getD k 0)]:=by simp[gY,pv]
theorem wVals_len(cs:List Int)(k:Nat):(gY cs k).length=k:=by simp[gY]
theorem wRows_succ(x:Rcp)(n i:Nat):jN x n (i+1)=jN x n i++[wRow x.gap (x.rows.getD i []) n i]:=by simp[jN,pv]
theorem wRows_len(x:Rcp)(n i:Nat):(jN x n i).length=i:=by simp[jN]
theorem nt(n:Nat)(h:n≤1000000000):n≤9223372036854775806∧(n+1)*32≤140737488355328:=by omega
theorem L8_take(n:Nat):qi n [V.str ⟨#[97]⟩,V.str ⟨#[98]⟩,V.str ⟨#[99]⟩,V.str ⟨#[100]⟩,V.str ⟨#[101]⟩,V.str ⟨#[102]⟩,V.str ⟨#[103]⟩,V.str ⟨#[104]⟩]=(L8.take n).map V.str:=by rw[qf];rfl
theorem ownF_refl(k:Nat):∀xs:List V,oC k xs xs
 | []=>trivial
 | x::xs=>⟨.inl rfl,ownF_refl k xs⟩
theorem ownAt_nil(k:Nat):∀(i:Nat) (xs:List V),dg k [] i xs=xs
 | _,[]=>rfl
 | i,x::xs=>by simp only[dg,List.contains_nil,oZ,if_false,ownAt_nil k (i+1) xs]
theorem cD(k:Nat)(xs:List V):oC k xs (dg k [] 0 xs):=by rw[ownAt_nil];exact ownF_refl k xs
theorem wide03(x:Rcp)(n:Nat)(f:Bool)(hn:n≤8)(hr:x.rows.length≤1000000)(hc:∀r∈x.rows,r.length≤9223372036854775807)(h0:0≤x.gap):
  aJ Tryz.prog 12 [ax f x,.int .i64 n] fun r=>r=aD false false (wideT x n):=by
 have hg:=rm 3 h0;have hg2:=Int.tmod_lt_of_pos x.gap (show(0:Int)<3 by omega);obtain⟨g,hge⟩:∃g,g=x.gap.tmod 3:=⟨_,rfl⟩;rw[←hge]at hg hg2;have hgs:=hge.symm;have hw1:IntKind.i64.wrap g=g:=wrap64 (by omega) (by omega);have hw2:IntKind.i64.wrap (1+g)=1+g:=wrap64 (by omega) (by omega)
 have hl8:(L8.take n).length=n:=by simp[L8];omega
 have hne:(n=0∧qi n (L8.map V.str)=[])∨(¬n=0∧¬qi n (L8.map V.str)=[]):=by
  by_cases hz:n=0
  ·exact .inl ⟨hz,by rw[hz];rfl⟩
  ·refine .inr ⟨hz,fun h=>?_⟩;have:=congrArg List.length h;rw[←qf,oW,hl8]at this;exact hz this
 have hlt:(qi n (L8.map V.str)).length=n:=by rw[←qf,oW,hl8]
 have hcp:n≤9223372036854775807∧n*16≤140737488355328:=by omega
 rcases hne with⟨hz,hne⟩ | ⟨hz,hne⟩
 case' inl =>
  refine dJ (aE (tkf 29) Tryz.func12 rfl rfl ?_);refine W_x (tkf 29) mixed ?_;simp -dsimp[Tryz.f12,oE,ax,L8_take,hn,hne,bM]
 case' inr =>
  refine dJ (aE (tkf 29) Tryz.func12 rfl rfl ?_);refine W_x (tkf 29) mixed ?_;simp -dsimp[Tryz.f12,oE,ax,L8_take,hn,hz,hne,hlt,hcp,bM]
 all_goals
  refine aI (W_lf 2 _ [.str ⟨#[114]⟩,.lst 1 false (qi n (L8.map V.str)),.nilS] rfl (jf _) (by simp[LfL,lfB,hne]) (dL 53 2 [] 2 [2] rfl (cD _ _) (by simp) (W_loopM 66 0x3ffffffffffffefc0 (by simp[mB]<;>rfl) (σ:=Nat) (fun i=>i≤x.rows.length) (fun i=>x.rows.length-i) (fun i=>[(6,.int .i64 i)]) (fun i=>[B.cells [.int .u8 x.a,.int .u8 x.gap,.lst 1 f (x.rows.map LU)],B.cells [.str oF,.nilS,.nilS],B.cells [.str ⟨#[114]⟩,.lst 1 false (qi n (L8.map V.str)),.buf 3 0 i i],B.buf 53 2 ((jN x n i).map aC) false]) 0 (by omega) (by simp) (by simp[jN]) (by simp) ?_)));intro i hi N Q hN hQ;have hwl:=wRows_len x n i;by_cases hb:i<x.rows.length
  ·have hg0:x.rows.getD i []=x.rows[i]:=by simp[hb]
   have hws:=wRows_succ x n i;rw[hg0]at hws;have hcl:=hc x.rows[i] (oI hb);obtain⟨cs,hcs⟩:∃cs,cs=x.rows[i]:=⟨_,rfl⟩;rw[←hcs]at hws hcl;have hcs':=hcs.symm;have hp0:0≤(i:Int)*(1+g):=Int.mul_nonneg (by omega) (by omega);have hp1:(i:Int)*(1+g)≤i*3:=Int.mul_le_mul_of_nonneg_left (by omega) (by omega);have hw3:IntKind.i64.wrap ((i:Int)*(1+g))=(i:Int)*(1+g):=wrap64 (by omega) (by omega);have hw4:IntKind.i64.wrap (1+(i:Int)*(1+g))=1+(i:Int)*(1+g):=wrap64 (by omega) (by omega)
   have hrow:wRow x.gap cs n i=⟨1+(i:Int)*(1+g),gY cs n⟩:=by rw[hge];rfl
   rw[hrow]at hws;obtain⟨id,hid⟩:∃id,id=1+(i:Int)*(1+g):=⟨_,rfl⟩;rw[←hid]at hws hw4
   have hw5:IntKind.i64.wrap (1+(i:Int)*(1+g))=id:=by rw[←hid];exact hw4
   refine W_x (tkf 29) mixed ?_;simp -dsimp[hb,hgs,hw1,hw2,hw3,hw5,bM];refine aI (dL 79 3 [] 4 [1] rfl (cD _ _) (by simp) (W_loopM 60 0xfffffff00000300 (by simp[mB]<;>rfl) (σ:=Nat) (fun k=>k≤n) (fun k=>n-k) (fun k=>[(8,.int .i64 k)]) (fun k=>[B.cells [.int .u8 x.a,.int .u8 x.gap,.lst 1 f (x.rows.map LU)],B.cells [.str oF,.nilS,.nilS],B.cells [.str ⟨#[114]⟩,.lst 1 false (qi n (L8.map V.str)),.buf 3 0 i i],B.buf 53 2 ((jN x n i).map aC) false,B.cells [.int .i64 id,.buf 5 0 k k],B.buf 79 3 ((gY cs k).map aF) false]) 0 (by omega) (by simp) (by simp[gY]) (by simp) ?_));intro k hk N2 Q2 hN2 hQ2;have hvl:=wVals_len cs k;have hvs:=wVals_succ cs k;by_cases hkb:k<n
   ·by_cases hkc:k<cs.length
    ·have hg1:cs.getD k 0=cs[k]:=by simp[hkc]
     rw[hg1]at hvs;have hco:=of01 cs[k];refine W_x (tkf 29) mixed ?_;simp -dsimp[hkb,hb,LU,hcs',hkc,encU,bM];refine aI (aX (tkf 29) mixed [5,7] [] [(aF (ofC cs[k]),[])] (by kernel_rfl) fun C K hC hK=>?_);simp -implicitDefEqProofs [nt k (by omega),hvl,aF,bM];refine⟨hC _ _ _ _ (aT hco (by simp)),hK _ _ ?_⟩;simp -dsimp[aP k (by omega),bM];refine hN2 (k+1) _ _ (by omega) (by omega) ?_ ⟨[],?_⟩ ?_ ?_<;>simp[or_imp,forall_and,L1,aQ,hvs,LS,aF,aC,LV]
    ·have hg1:cs.getD k 0=0:=by simp[hkc]
     rw[hg1]at hvs;have hco:=of01 0;refine W_x (tkf 29) mixed ?_;simp -dsimp[hkb,hb,LU,hcs',hkc,encU,bM];refine aI (aX (tkf 29) mixed [5,7] [] [(aF (ofC 0),[])] (by kernel_rfl) fun C K hC hK=>?_);simp -implicitDefEqProofs [nt k (by omega),hvl,aF,bM];refine⟨hC _ _ _ _ (aT hco (by simp)),hK _ _ ?_⟩;simp -dsimp[aP k (by omega),bM];refine hN2 (k+1) _ _ (by omega) (by omega) ?_ ⟨[],?_⟩ ?_ ?_<;>simp[or_imp,forall_and,L1,aQ,hvs,LS,aF,aC,LV]
   ·obtain rfl:k=n:=by omega
    refine eG 5 [] 4 [1] rfl rfl (by simp) (by simp[hvl]) ?_;refine W_x (tkf 29) mixed ?_;simp -dsimp[hkb,bM];refine hQ2 _ _ _ ?_;simp -dsimp[hwl,nt i (by omega),aP i (by omega),bM];refine hN (i+1) _ _ (by omega) (by omega) ?_ ⟨[B.cells [.int .i64 id,LV false (gY cs k)],B.buf 79 3 ((gY cs k).map aF) true],?_⟩ ?_ ?_<;>simp[or_imp,forall_and,L1,aQ,hws,aC,LV]
  ·obtain rfl:i=x.rows.length:=by omega
   refine eG 3 [] 2 [2] rfl rfl (by simp) (by simp[hwl]) ?_;refine W_x (tkf 29) mixed ?_;simp -dsimp[hb,bM];refine hQ _ _ _ ?_;simp -dsimp[bM];simp only[aD,wideT,LS,LR,qf]
theorem nanInt(x:Int):aJ Tryz.prog 276 [.int .i64 x] fun r=>r = .bool false:=by
 refine sPx Tryz.func276 rfl rfl ?_;simp -dsimp[Tryz.f276,oE]
theorem cmpInt(x y:Int):aJ Tryz.prog 222 [.int .i64 x,.int .i64 y] fun r=>r = .int .i64 (bR x y):=by
 refine sPx Tryz.func222 rfl rfl ?_;simp -dsimp[Tryz.f222,oE];refine cPx (nanInt x) (by simp) ?_;simp -dsimp[];refine cPx (nanInt y) (by simp) ?_;simp -dsimp[];unfold bR;split
 ·rfl
 ·split<;>rfl
theorem mS(x y:Int):aJ Tryz.prog 122 [.int .i64 x,.int .i64 y] fun r=>r = .int .i64 (bR x y):=by
 refine sPx Tryz.func122 rfl rfl ?_;simp -dsimp[Tryz.f122,oE];unfold bR;split
 ·rfl
 ·split<;>rfl
theorem cmpS_drop(a b:ByteArray)(i:Nat)(ha:i<a.size)(hb:i<b.size):Lib.compareBytes (a.data.toList.drop i) (b.data.toList.drop i)=if a[i]<b[i] then -1 else if b[i]<a[i] then 1 else Lib.compareBytes (a.data.toList.drop (i+1)) (b.data.toList.drop (i+1)):=by
 have h1:i<a.data.toList.length:=by rw[gy];exact ha
 have h2:i<b.data.toList.length:=by rw[gy];exact hb
 rw[oK h1,oK h2,Lib.compareBytes];rfl
theorem cmpS_end(a b:ByteArray)(i:Nat)(hi:i≤a.size)(hj:i≤b.size)(h:¬(i<a.size∧i<b.size)):Lib.compareBytes (a.data.toList.drop i) (b.data.toList.drop i)=bR a.size b.size:=by
 have l1:=gy a;have l2:=gy b;by_cases h1:i<a.size
 ·have h2:i=b.size:=by omega
  have h3:i<a.data.toList.length:=by omega
  rw[oK h3,oV (l:=b.data.toList) (by omega),Lib.compareBytes];unfold bR;rw[if_neg (by omega),if_pos (by omega)]
 ·rw[oV (l:=a.data.toList) (by omega)];by_cases h2:i<b.size
  ·have h3:i<b.data.toList.length:=by omega
   rw[oK h3,Lib.compareBytes];unfold bR;rw[if_pos (by omega)]
  ·rw[oV (l:=b.data.toList) (by omega),Lib.compareBytes];unfold bR;rw[if_neg (by omega),if_neg (by omega)]
theorem strings01(a b:ByteArray)(ha:a.size≤maxLen):aJ Tryz.prog 123 [.str a,.str b] fun r=>r = .int .i64 (jC a b):=by
 refine sPx Tryz.func123 rfl rfl ?_;simp -dsimp[Tryz.f123,oE];refine aI (W_loopM 34 0x3fffffff0 (by simp[mB]<;>rfl) (σ:=Nat) (fun i=>i≤a.size∧i≤b.size∧Lib.compareBytes (a.data.toList.drop i) (b.data.toList.drop i)=jC a b) (fun i=>a.size-i) (fun i=>[(5,.int .i64 i)]) (fun _=>[]) 0 ⟨by omega,by omega,rfl⟩ (by simp) rfl (by simp) ?_);rintro i ⟨hi,hj,hx⟩ N Q hN hQ;by_cases h:i<a.size∧i<b.size
 ·obtain⟨h1,h2⟩:=h;rw[cmpS_drop a b i h1 h2]at hx;obtain⟨x1,x2⟩:=fe h1;obtain⟨y1,y2⟩:=fe h2;by_cases hq:bL a i=bL b i
  ·have e1:¬a[i]<b[i]:=fun h=>by have:=UInt8.lt_iff_toNat_lt.1 h;omega
   have e2:¬b[i]<a[i]:=fun h=>by have:=UInt8.lt_iff_toNat_lt.1 h;omega
   rw[if_neg e1,if_neg e2]at hx;refine wx ?_;simp -dsimp[h1,h2,x1,y1,x2,y2,hq];refine .inr ⟨aS (by kernel_rfl),?_⟩;simp -dsimp[aP i (by unfold maxLen at ha;omega)];refine hN (i+1) _ _ ⟨by omega,by omega,hx⟩ (by omega) ?_ ⟨[],?_⟩ ?_ ?_<;>simp[or_imp,forall_and,L1,aQ]
  ·have hs:bR (bL a i) (bL b i)=jC a b:=by
    rw[←hx,←x2,←y2];unfold bR;by_cases e1:a[i]<b[i]
    ·have e1':(a[i].toNat:Int)<b[i].toNat:=by have:=UInt8.lt_iff_toNat_lt.1 e1;omega
     rw[if_pos e1,if_pos e1']
    ·have e1':¬((a[i].toNat:Int)<b[i].toNat):=fun h=>e1 (UInt8.lt_iff_toNat_lt.2 (by omega))
     have e2:b[i]<a[i]:=UInt8.lt_iff_toNat_lt.2 (by omega)
     have e2':(b[i].toNat:Int)<a[i].toNat:=by have:=UInt8.lt_iff_toNat_lt.1 e2;omega
     rw[if_neg e1,if_neg e1',if_pos e2,if_pos e2']
   have hw1:IntKind.i64.wrap (bL a i)=bL a i:=by rw[←x2];exact wrap64 (by omega) (by have:=UInt8.toNat_lt a[i];omega)
   have hw2:IntKind.i64.wrap (bL b i)=bL b i:=by rw[←y2];exact wrap64 (by omega) (by have:=UInt8.toNat_lt b[i];omega)
   have hc:=mS (bL a i) (bL b i);refine wx ?_;simp -dsimp[h1,h2,x1,y1,x2,y2,hq];refine .inr ⟨aS (by kernel_rfl),?_⟩;simp -dsimp[h1,h2,x1,y1,x2,y2,hw1,hw2];refine .inr ⟨aS (by kernel_rfl),?_⟩;refine az _ (aT (hc) (by simp)) ?_;simp -dsimp[];refine hQ _ _ _ ?_;simp -dsimp[];exact hs
 ·rw[cmpS_end a b i hi hj h]at hx;have hc:=mS a.size b.size;by_cases h1:i<a.size
  ·have h2:¬i<b.size:=fun h2=>h ⟨h1,h2⟩
   refine wx ?_;simp -dsimp[h1,h2];refine hQ _ _ _ ?_;simp -dsimp[];refine cPx (hc) (by simp) ?_;simp -dsimp[];exact hx
  ·refine wx ?_;simp -dsimp[h1];refine hQ _ _ _ ?_;simp -dsimp[];refine cPx (hc) (by simp) ?_;simp -dsimp[];exact hx
def iY(a b:Vl):Int:=if bR a.k b.k=0 then(if bR a.n b.n=0 then jC a.s b.s else bR a.n b.n) else bR a.k b.k
theorem compare01(a b:Vl)(ha:a.s.size≤maxLen):aJ Tryz.prog 67 [aF a,aF b] fun r=>r = .int .i64 (iY a b):=by
 have hc1:=mS a.k b.k;have hc2:=mS a.n b.n;have hc3:=strings01 a.s b.s ha;unfold iY;by_cases h1:bR a.k b.k=0
 ·by_cases h2:bR a.n b.n=0
  ·rw[if_pos h1,if_pos h2];refine sPx Tryz.func67 rfl rfl ?_;simp -dsimp[Tryz.f67,oE,aF];refine cPx (hc1) (by simp) ?_;simp -dsimp[h1];refine cPx (hc2) (by simp) ?_;simp -dsimp[h2];refine cPx (hc3) (by simp) ?_;simp -dsimp[]
  ·rw[if_pos h1,if_neg h2];refine sPx Tryz.func67 rfl rfl ?_;simp -dsimp[Tryz.f67,oE,aF];refine cPx (hc1) (by simp) ?_;simp -dsimp[h1];refine cPx (hc2) (by simp) ?_;simp -dsimp[h2]
 ·rw[if_neg h1];refine sPx Tryz.func67 rfl rfl ?_;simp -dsimp[Tryz.f67,oE,aF];refine cPx (hc1) (by simp) ?_;simp -dsimp[h1]
def fa:List Vl→List Vl→Int
 | [],[]=>0
 | [],_::_=>-1
 | _::_,[]=>1
 | x::xs,y::ys=>if iY x y=0 then fa xs ys else iY x y
theorem cmpVs_end(us bs:List Vl)(i:Nat)(h1:i≤us.length)(h2:i≤bs.length)(h:¬(i<us.length∧i<bs.length)):fa (us.drop i) (bs.drop i)=bR us.length bs.length:=by
 unfold bR;by_cases ha:i<us.length
 ·rw[oK ha,oV (l:=bs) (by omega),fa,if_neg (by omega),if_pos (by omega)]
 ·rw[oV (l:=us) (by omega)];by_cases hb:i<bs.length
  ·rw[oK hb,fa,if_pos (by omega)]
  ·rw[oV (l:=bs) (by omega),fa,if_neg (by omega),if_neg (by omega)]
theorem lists01(us bs:List Vl)(f g:Bool)(hl:us.length≤1000000)(hs:∀v∈us,v.s.size≤maxLen):aJ Tryz.prog 193 [LV f us,LV g bs] fun r=>r = .int .i64 (fa us bs):=by
 obtain⟨E,hE⟩:∃E,E=fa us bs:=⟨_,rfl⟩;rw[←hE];refine sPx Tryz.func193 rfl rfl ?_;simp -dsimp[Tryz.f193,oE,LV];refine aI (W_loopM 31 0x7ffffff0 (by simp[mB]<;>rfl) (σ:=Nat) (fun i=>i≤us.length∧i≤bs.length∧fa (us.drop i) (bs.drop i)=E) (fun i=>us.length-i) (fun i=>[(5,.int .i64 i)]) (fun _=>[]) 0 ⟨by omega,by omega,hE.symm⟩ (by simp) rfl (by simp) ?_);rintro i ⟨hi,hj,hx⟩ N Q hN hQ;by_cases h:i<us.length∧i<bs.length
 ·obtain⟨h1,h2⟩:=h;have hc:=compare01 us[i] bs[i] (hs _ (oI h1));simp only[aF]at hc;rw[oK h1,oK h2,fa]at hx;by_cases h3:iY us[i] bs[i]=0
  ·rw[if_pos h3]at hx;refine wx ?_;simp -dsimp[h1,h2,aF];refine .inr ⟨aS (by kernel_rfl),?_⟩;refine az _ (aT (hc) (by simp)) ?_;simp -dsimp[h3,aP i (by omega)];refine hN (i+1) _ _ ⟨by omega,by omega,hx⟩ (by omega) ?_ ⟨[],?_⟩ ?_ ?_<;>simp[or_imp,forall_and,L1,aQ]
  ·rw[if_neg h3]at hx;refine wx ?_;simp -dsimp[h1,h2,aF];refine .inr ⟨aS (by kernel_rfl),?_⟩;refine az _ (aT (hc) (by simp)) ?_;simp -dsimp[h3];refine hQ _ _ _ ?_;simp -dsimp[];exact hx
 ·rw[cmpVs_end us bs i hi hj h]at hx;have hc:=mS us.length bs.length;by_cases h1:i<us.length
  ·have h2:¬i<bs.length:=fun h2=>h ⟨h1,h2⟩
   refine wx ?_;simp -dsimp[h1,h2];refine hQ _ _ _ ?_;simp -dsimp[];refine cPx (hc) (by simp) ?_;simp -dsimp[];exact hx
  ·refine wx ?_;simp -dsimp[h1];refine hQ _ _ _ ?_;simp -dsimp[];refine cPx (hc) (by simp) ?_;simp -dsimp[];exact hx
theorem same01(us bs:List Vl)(f g:Bool)(hl:us.length≤1000000)(hs:∀v∈us,v.s.size≤maxLen):aJ Tryz.prog 118 [LV f us,LV g bs] fun r=>r = .bool (fa us bs == 0):=by
 have hc:=lists01 us bs f g hl hs;refine sPx Tryz.func118 rfl rfl ?_;simp -dsimp[Tryz.f118,oE];refine cPx (hc) (by simp) ?_;simp -dsimp[]
def orI:List Int→Int
 | []=>0
 | x::xs=>if x=0 then orI xs else x
theorem orInt(xs:List Int)(f:Bool)(hl:xs.length≤1000000):aJ Tryz.prog 221 [L1 f xs] fun r=>r = .int .i64 (orI xs):=by
 obtain⟨E,hE⟩:∃E,E=orI xs:=⟨_,rfl⟩;rw[←hE];refine sPx Tryz.func221 rfl rfl ?_;simp -dsimp[Tryz.f221,oE,L1];refine aI (W_loopM 17 0x1ff24 (by simp[mB]<;>rfl) (σ:=Nat) (fun i=>orI (xs.drop i)=E) (fun i=>xs.length-i) (fun i=>[(8,.int .i64 i)]) (fun _=>[]) 0 hE.symm (by simp) rfl (by simp) ?_);intro i hx N Q hN hQ;by_cases hb:i<xs.length
 ·rw[oK hb,orI]at hx;by_cases h0:xs[i]=0
  ·rw[if_pos h0]at hx;refine wx ?_;simp -dsimp[hb,aQ,h0];simp -dsimp[aP i (by omega)];refine hN (i+1) _ _ hx (by omega) (by simp) ⟨[],rfl⟩ (by simp[L1,aQ]) (by simp)
  ·rw[if_neg h0]at hx;refine wx ?_;simp -dsimp[hb,aQ,h0];refine hQ _ _ _ ?_;simp -dsimp[];exact hx
 ·rw[oV (by omega)]at hx;refine wx ?_;simp -dsimp[hb];refine hQ _ _ _ ?_;simp -dsimp[];exact hx
theorem gZ(a b:ByteArray):aJ Tryz.prog 298 [.str a,.str b] fun r=>r = .int .i64 (jC a b):=by
 have hc:=cmp_con a b;refine sPx Tryz.func298 rfl rfl ?_;simp -dsimp[Tryz.f298,oE];refine cPx (hc) (by simp) ?_;simp -dsimp[]
theorem valueCompare(a b:Vl):aJ Tryz.prog 246 [aF a,aF b] fun r=>r = .int .i64 (iY a b):=by
 have hc1:=cmpInt a.k b.k;have hc2:=cmp64 a.n b.n;have hc3:=gZ a.s b.s;have hc4:=orInt [bR a.k b.k,bR a.n b.n,jC a.s b.s] true (by simp)
 have he:orI [bR a.k b.k,bR a.n b.n,jC a.s b.s]=iY a b:=by
  unfold iY;simp only[orI];split
  ·split
   ·split
    ·rename_i h;exact h.symm
    ·rfl
   ·rfl
  ·rfl
 rw[he]at hc4;simp only[L1,oq,pJ,aQ]at hc4;refine sPx Tryz.func246 rfl rfl ?_;simp -dsimp[Tryz.f246,oE,aF];refine .inr ⟨aS (by kernel_rfl),?_⟩;refine az _ (aT (hc1) (by simp)) ?_;simp -dsimp[];refine az _ (aT (hc2) (by simp)) ?_;simp -dsimp[];refine az _ (aT (hc3) (by simp)) ?_;simp -dsimp[];refine az _ (aT (hc4) (by simp)) ?_;simp -dsimp[]
end
end Go.Proofs.YtdnhplencamncaaGreatDoor
section
namespace Go.Proofs.YtdnhplencamncaaGreatDoor
open Go Go.AM
end Go.Proofs.YtdnhplencamncaaGreatDoor
end
section
namespace Go.Proofs.YtdnhplencamncaaGreatDoor
open Go Go.AM
end Go.Proofs.YtdnhplencamncaaGreatDoor
end
namespace Go.Proofs.YtdnhplencamncaaGreatDoor
section
open Go Go.AM
structure Fd where
 l:Nat
 r:Nat
def encD(d:Fd):V:=.agg [.int .u8 (d.l:Int),.int .u8 (d.r:Int)]
def encF(d:Fd):V:=.agg [.int .u32 (d.l:Int),.int .u32 (d.r:Int)]
@[simp] theorem encD_pure (d:Fd):AM.Pure (encD d):=by simp[encD]
@[simp] theorem encF_pure (d:Fd):AM.Pure (encF d):=by simp[encF]
@[simp] theorem encF_oneV (d:Fd):cT (encF d)=true:=rfl
def LF(f:Bool)(ds:List Fd):V:=.lst 2 f (ds.map encF)
@[simp] theorem LF_pure (f:Bool) (ds:List Fd):AM.Pure (LF f ds):=by simp[LF]
structure Tm where
 v:Int
 a:Int
 x:Vl
structure At where
 l:Tm
 op:Int
 r:Tm
structure Dn where
 vars:Int
 atoms:List At
structure Cl where
 any:Bool
 x:Vl
structure Cfd where
 l:List Int
 r:Int
 p:List Cl
structure Od where
 l:List Int
 r:List Int
def encTm(t:Tm):V:=.agg [.int .i64 t.v,.int .i64 t.a,.int .i64 t.x.k,.int .i64 t.x.n,.str t.x.s]
def encAt(a:At):V:=.agg [.int .i64 a.l.v,.int .i64 a.l.a,.int .i64 a.l.x.k,.int .i64 a.l.x.n,.str a.l.x.s,.int .i64 a.op,.int .i64 a.r.v,.int .i64 a.r.a,.int .i64 a.r.x.k,.int .i64 a.r.x.n,.str a.r.x.s]
def encCl(c:Cl):V:=.agg [.bool c.any,.int .i64 c.x.k,.int .i64 c.x.n,.str c.x.s]
@[simp] theorem encTm_pure (t:Tm):AM.Pure (encTm t):=by simp[encTm]
@[simp] theorem encAt_pure (a:At):AM.Pure (encAt a):=by simp[encAt]
@[simp] theorem encCl_pure (c:Cl):AM.Pure (encCl c):=by simp[encCl]
@[simp] theorem encAt_oneV (a:At):cT (encAt a)=true:=rfl
@[simp] theorem encCl_oneV (c:Cl):cT (encCl c)=true:=rfl
def LA(f:Bool)(al:List At):V:=.lst 11 f (al.map encAt)
def LCl(f:Bool)(cs:List Cl):V:=.lst 4 f (cs.map encCl)
@[simp] theorem LA_pure (f:Bool) (al:List At):AM.Pure (LA f al):=by simp[LA]
@[simp] theorem LCl_pure (f:Bool) (cs:List Cl):AM.Pure (LCl f cs):=by simp[LCl]
def encDn(f:Bool)(d:Dn):V:=.agg [.int .i64 d.vars,LA f d.atoms]
def encCfd(f g:Bool)(c:Cfd):V:=.agg [L1 f c.l,.int .i64 c.r,LCl g c.p]
def encOd(f g:Bool)(d:Od):V:=.agg [L1 f d.l,L1 g d.r]
@[simp] theorem encDn_pure (f:Bool) (d:Dn):AM.Pure (encDn f d):=by simp[encDn]
@[simp] theorem encCfd_pure (f g:Bool) (c:Cfd):AM.Pure (encCfd f g c):=by simp[encCfd]
@[simp] theorem encOd_pure (f g:Bool) (d:Od):AM.Pure (encOd f g d):=by simp[encOd]
def dS(x y:Vl):Bool:=x.k == y.k&&(x.n == y.n&&x.s == y.s)
theorem eqVl(H:List B)(k n:Int)(t:ByteArray)(k' n':Int)(t':ByteArray):eK T H 79 (.agg [.int .i64 k,.int .i64 n,.str t]) (.agg [.int .i64 k',.int .i64 n',.str t'])=some (dS ⟨k,n,t⟩ ⟨k',n',t'⟩):=by
 have h2:∀x y:Int,eqD T 9999 2 (.int .i64 x) (.int .i64 y)=some (x == y):=fun x y=>by simp[eqD]
 have h1:∀x y:Int,eqD T 9999 3 (.int .i64 x) (.int .i64 y)=some (x == y):=fun x y=>by simp[eqD]
 have h3:∀x y:ByteArray,eqD T 9999 9 (.str x) (.str y)=some (x == y):=fun x y=>by simp[eqD]
 simp only[eK];rw[show(10000:Nat)=9999+1 from rfl,eqD];simp only[T_79];simp only[if_true,eqFs,iX,T_2,T_3,T_9,bY,qI,pL,oZ,if_false,h1,h2,h3,dS];cases (k == k')<;>cases (n == n')<;>cases (t == t')<;>simp
structure Cn where
 name:ByteArray
 table:ByteArray
 kind:Int
 fd:Fd
 m1:Int
 m2:Int
 i1:ByteArray
 i2:List Int
 i3:ByteArray
 i4:List Int
 cfd:Cfd
 od:Od
 dn:Dn
def encCn(c:Cn):V:=.agg [.str c.name,.str c.table,.int .i64 c.kind,.int .u32 (c.fd.l:Int),.int .u32 (c.fd.r:Int),.int .u32 c.m1,.int .u32 c.m2,.str c.i1,L1 false c.i2,.str c.i3,L1 false c.i4,L1 false c.cfd.l,.int .i64 c.cfd.r,LCl false c.cfd.p,L1 false c.od.l,L1 false c.od.r,.int .i64 c.dn.vars,LA false c.dn.atoms]
def LCn(f:Bool)(cs:List Cn):V:=.lst 18 f (cs.map encCn)
@[simp] theorem encCn_pure (c:Cn):AM.Pure (encCn c):=by simp[encCn]
@[simp] theorem LCn_pure (f:Bool) (cs:List Cn):AM.Pure (LCn f cs):=by simp[LCn]
@[simp] theorem encCn_oneV (c:Cn):cT (encCn c)=true:=by simp[encCn,cT,L1,LCl,LA,V.one]
def ed:List UInt8→List UInt8→Nat
 | [],b=>b.length
 | x::a,[]=>a.length+1
 | x::a,y::b=>if x=y then ed a b else 1+min (min (ed a b) (ed a (y::b))) (ed (x::a) b)
termination_by a b=>a.length+b.length
theorem ed_nil(b:List UInt8):ed [] b=b.length:=by rw[ed]
theorem ed_nil2(a:List UInt8):ed a []=a.length:=by cases a with | nil=>rw[ed] | cons x a=>rw[ed];rfl
theorem ed_cons(x y:UInt8)(a b:List UInt8):ed (x::a) (y::b)=if x=y then ed a b else 1+min (min (ed a b) (ed a (y::b))) (ed (x::a) b):=by rw[ed]
theorem ed_le:∀(a b:List UInt8),ed a b≤a.length+b.length
 | [],b=>by rw[ed_nil];simp
 | x::a,[]=>by rw[ed_nil2];simp
 | x::a,y::b=>by
  have h1:=ed_le a b;have h2:=ed_le a (y::b);have h3:=ed_le (x::a) b;rw[ed_cons];simp only[og]at *;split<;>omega
termination_by a b=>a.length+b.length
def edI(a b:List UInt8)(i j:Nat):Nat:=ed (a.drop i) (b.drop j)
theorem edI_left(a b:List UInt8)(j:Nat):edI a b a.length j=b.length-j:=by
 unfold edI;rw[List.drop_length,ed_nil,pk]
theorem edI_right(a b:List UInt8)(i:Nat):edI a b i b.length=a.length-i:=by
 unfold edI;rw[List.drop_length,ed_nil2,pk]
theorem edI_same{a b:List UInt8}{i j:Nat}(hi:i<a.length)(hj:j<b.length)(h:a[i]=b[j]):edI a b i j=edI a b (i+1) (j+1):=by
 unfold edI;rw[oK hi,oK hj,ed_cons,if_pos h]
theorem edI_diff{a b:List UInt8}{i j:Nat}(hi:i<a.length)(hj:j<b.length)(h:¬a[i]=b[j]):edI a b i j=1+min (min (edI a b (i+1) (j+1)) (edI a b (i+1) j)) (edI a b i (j+1)):=by
 unfold edI;rw[oK hi,oK hj,ed_cons,if_neg h,←oK hi,←oK hj]
theorem edI_le(a b:List UInt8)(i j:Nat):edI a b i j≤a.length+b.length:=by
 have:=ed_le (a.drop i) (b.drop j);unfold edI;rw[pk,pk]at this;omega
def grL(s:List UInt8):List (List UInt8):=(oM (s.length+1)).map fun i=>((1::s++[1]).drop i).take 2
def grS(s:List UInt8):List (List UInt8):=(grL s).mergeSort fun x y=>decide (x≤y)
theorem lw(s:List UInt8):(grS s).length=s.length+1:=by
 unfold grS grL;rw[qn,oW,rC]
def shN:List (List UInt8)→List (List UInt8)→Nat
 | [],_=>0
 | _::_,[]=>0
 | x::a,y::b=>if Lib.compareBytes x y<0 then shN a (y::b) else if 0<Lib.compareBytes x y then shN (x::a) b else shN a b+1
termination_by a b=>a.length+b.length
theorem kQ:∀(a b:List (List UInt8)),shN a b≤a.length
 | [],_=>by rw[shN];simp
 | _::_,[]=>by rw[shN];simp
 | x::a,y::b=>by
  have h1:=kQ a (y::b);have h2:=kQ (x::a) b;have h3:=kQ a b;rw[shN];simp only[og]at *;split
  ·omega
  ·split<;>omega
termination_by a b=>a.length+b.length
end
end Go.Proofs.YtdnhplencamncaaGreatDoor
namespace Go.Proofs.YtdnhplencamncaaGreatDoor
section
open Go Go.AM Go.RowKit
theorem infoClI:(Tryz.prog.info? 3).map (fun i=>(i.zero,i.size,i.bytes))=some (some (.int .i64 0),1,8):=by kernel_rfl
theorem cloneEI(A:Option Addr)(cap:Nat)(w:World):
  Calls Tryz.prog 162 #[.slice A 0 cap] w fun e w'=>∃v,e = .returned v∧w'.ownsRow w.heap.size 3 1 v 0 []∧Below w.heap.size w w':=by
 have hnil:=fun W A n c=>Lib.run_eql_slice_nil (P:=Tryz.prog) W 26 3 A n c 0 0 Tryz.underlying26
 cases A with
 | none =>
  go_enter Tryz.func162,Tryz.ntmps162
  go_wp2
  go_ret
  exact⟨_,rfl,World.ownsRow_nil _ _ _ _,Below.refl _ _⟩
 | some ad =>
  obtain⟨i0,hi,hz0,hz1,hz2⟩:=info_parts infoClI;have hown:(w.alloc (.cells #[] 3)).ownsRow w.heap.size 3 1 (.slice (some ⟨w.heap.size,0,none⟩) 0 0) 0 []:=World.ownsRow_lit w #[] 0 (oJ _) (by simp[maxLen]) (by simp)
  have hnews:∀j u,([]:List Value)[j]?=some u→(w.alloc (.cells #[] 3)).cell? (ad.add j)=some u:=by
   intro j u hu;simp at hu
  have hone:∀u∈([]:List Value),u.oneCell'=true:=by intro u hu;cases hu
  have h63:0+0≤maxLen:=by simp[maxLen]
  have hby:(0+0)*8≤140737488355328:=by omega
  have hlen:([]:List Value).length=0*1:=by simp
  have Hi:=Lib.hid (show Tryz.prog.info? 3=some i0∧i0.zero=some _∧i0.size=1∧i0.bytes=8 from⟨hi,hz0,hz1,hz2⟩);have Hw:=Lib.hid (And.intro hown (And.intro hnews (And.intro hone (And.intro h63 (And.intro hby hlen)))));clear hnews hone hown hi hz0 hz1 hz2 h63 hby hlen
  go_enter Tryz.func162,Tryz.ntmps162
  go_wp2_with (at_builtin;refine wpList_append_own _ rfl _ _ 26 rfl w.heap.size 3 i0 _ 1 8 Tryz.underlying26 Hi.out.1 Hi.out.2.1 Hi.out.2.2.1 Hi.out.2.2.2 rfl (by omega) (.slice (some ⟨w.heap.size,0,none⟩) 0 0) 0 [] rfl Hw.out.1 ad 0 cap [] rfl Hw.out.2.2.2.2.2 Hw.out.2.1 Hw.out.2.2.1 Hw.out.2.2.2.1 Hw.out.2.2.2.2.1 (by simp) ?_;intro v1 w1 ho hg hn;have Ho:=Lib.hid ho;have Hg:=Lib.hid hg;have Hn:=Lib.hid hn;clear ho hg hn)
  go_ret
  exact⟨v1,rfl,by have:=Ho.out;simpa using this,((Below.refl _ _).alloc (oJ _) _).grown Hg.out (by simp) (by simp[Value.ownBlock])⟩
theorem cloneI(xs:List Int)(f:Bool)(hl:xs.length≤1100000):dr Tryz.prog 162 [L1 f xs] fun e z ys=>e=3∧z=1∧ys=xs.map aQ:=by
 cases xs with
 | nil =>
  refine nc ⟨Tryz.f162,Tryz.func162,rfl,rfl⟩ (fun F w vals hsz hrel=>?_)
  obtain⟨u0,rfl⟩:∃u0,vals = #[u0]:=by
   obtain⟨l⟩:=vals
   match l,hsz with
   | [a],_=>exact⟨a,rfl⟩
  have r0:=hrel 0 _ u0 rfl rfl;simp only[L1,pJ]at r0;cases r0;exact cloneEI _ _ _
 | cons x xs =>
  have hl':xs.length≤1100000:=by simp only[og]at hl;omega
  refine sOx Tryz.func162 rfl rfl ?_;simp -dsimp[Tryz.f162,oE,L1,eK,cap8 xs.length (by omega)];exact⟨0,3,1,aQ x::xs.map aQ,by simp,rfl,by simp,rfl,rfl,rfl⟩
end
end Go.Proofs.YtdnhplencamncaaGreatDoor
namespace Go.AM
section
open Go
section
def iR(T:Ty)(H:List B)(t:TypeId)(len:Nat)(parts:List (Nat×V)):Option (V×List B):=
 match T t with
 | some it=>match it.desc with
  | .slice e=>match T e with
   | some j=>if len*j.size≤16777216∧0<j.size∧0<len then
     (ja j.size (oE len j.zero) parts).map fun xs=>(.buf H.length 0 len len,H++[.buf e j.size xs false]) else none
   | none=>none
  | _=>none
 | none=>none
section
variable {P:Program} {T:Ty} {s:St}
theorem ny(hT:TOk P T)(hg:Good s){t:TypeId}{len:Nat}{parts:List (Nat×V)}{uparts:Array (Nat×Value)}{r:V}{H':List B}(hl:parts.length=uparts.size)
  (hr:∀(i:Nat) p u,parts[i]?=some p→uparts[i]?=some u→p.1=u.1∧Rel s p.2 u.2) (h:iR T s.H t len parts=some (r,H')):
  ∃u s',(Instr.buildSlice t len uparts).run P s.w = .ok u s'.w∧s'.H=H'∧Good s'∧Step s s'∧Rel s' r u:=by
 unfold iR at h
 have hl':parts.length=uparts.toList.length:=by simpa using hl
 have hr':∀(i:Nat) p u,parts[i]?=some p→uparts.toList[i]?=some u→p.1=u.1∧Rel s p.2 u.2:=fun i p u h1 h2=>hr i p u h1 (by simpa using h2)
 split at h
 ·rename_i it hit;have hu:=hT.und t it hit;split at h
  ·rename_i e hd;rw[hd]at hu;split at h
   ·rename_i j hj;obtain⟨inf,q1,q2,q3,q4,q5,q6⟩:=hT.info e j hj;split at h
    ·rename_i hsz;obtain⟨z1,z2,z3⟩:=hsz
     cases hf:ja j.size (oE len j.zero) parts with
     | none=>rw[hf]at h;cases h
     | some xs =>
      rw[hf]at h;cases h;have hzr:Rel s j.zero j.zval:=bu q5;have hz1:=eP q5;have hzc:=(hzr.cells hz1).1
      have h0:FRow s j.size (oE len j.zero) ((rq (len*j.size)).map (j.zval.cells[· % j.zval.cells.size]!)):=
       nH hzr hz1 q6 _ (by simp) (zeros_at j.zval (len*j.size) (by omega))
      obtain⟨us',h1,h2,h3⟩:=ip h0 hl' hr' hf
      have hlx:xs.length=len:=by simpa using h3
      have hmul:0<len*j.size:=Nat.mul_pos (by omega) z2;have hle:len≤len*j.size:=Nat.le_mul_of_pos_right _ z2;have hrun:=run_buildSlice (P:=P) s.w t e len uparts us' inf j.zval hu q1 q4 (by rw[q2];omega) (by rw[q2];omega) (by rw[q2];exact h1);have ho:=alloc_old s.w (.cells us' e);refine⟨_,s.push _ s.w.heap.size len _,hrun,rfl,?_,cq hg rfl rfl rfl (by simp) ho (oJ _),?_⟩
      ·refine dQ hg rfl rfl rfl (by simp) ho (oJ _) (by simp) (fun hst=>?_);refine⟨us',?_,?_,?_,?_,h2.el,fun i x jj d w hx hd' hw=>(h2.rel i x jj d w hx hd' hw).step hst⟩
       ·intro _;simp only[St.push,aR];exact alloc_new _ _
       ·simp only[St.push,aR];rw[h2.len,hlx]
       ·simp only[St.push,aR];omega
       ·simp only[St.push,aR,maxLen];omega
      ·refine .buf s.H.length 0 len len e j.size xs false _ _ _ (by simp[St.push]) (by omega) (fun _=>?_);simp only[St.push,aR,pz];exact⟨fun _=>trivial,trivial,by omega,by omega⟩
    ·cases h
   ·cases h
  ·cases h
 ·cases h
end
end
end
end Go.AM
