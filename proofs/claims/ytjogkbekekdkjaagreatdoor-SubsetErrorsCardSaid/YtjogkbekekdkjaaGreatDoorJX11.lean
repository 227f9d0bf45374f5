/- JX11: own texts of this seat, joined and shortened by pack4.py: T1, T2, T3. -/
import Derived.Test.YtjogkbekekdkjaaGreatDoorJX9
set_option linter.unusedVariables false
set_option linter.unusedSimpArgs false
set_option maxRecDepth 100000
set_option maxHeartbeats 64000000
open Bool renaming false_and→rZ,true_and→re,eq_iff_iff→sb,false_or→sf,and_false→sv,true_or→uS,and_true→vK
open ByteArray renaming empty→rY
open List renaming replicate→rO,drop_eq_getElem_cons→rP,getElem_mem→rQ,drop_of_length_le→rR,range→rh,append_nil→rj,drop_zero→rk,mem_of_mem_take→sD,append_assoc→sO,all_cons→sZ,range_succ→si,any_cons→tK,map_take→tj,take→uH
namespace Go.Proofs.YtjogkbekekdkjaaGreatDoor
section
open Go Go.AM
def seq(a b:ByteArray):Bool:=a.toList == b.toList
def dN(c:Int):Bool:=decide (97≤c)&&decide (c≤122)||decide (65≤c)&&decide (c≤90)||decide (c=95)
theorem mN(c:Int):(97≤c∧c≤122∧dN c=true)∨(97≤c∧¬c≤122∧65≤c∧¬c≤90∧¬c=95∧dN c=false)∨(¬97≤c∧65≤c∧c≤90∧dN c=true)∨(¬97≤c∧65≤c∧¬c≤90∧c=95∧dN c=true)∨(¬97≤c∧65≤c∧¬c≤90∧¬c=95∧dN c=false)∨(¬97≤c∧¬65≤c∧¬c=95∧dN c=false):=by
 have h:dN c=decide ((97≤c∧c≤122)∨(65≤c∧c≤90)∨c=95):=by
  unfold dN;simp only[Bool.decide_or,Bool.decide_and,Bool.or_assoc]
 rw[h];simp only[decide_eq_true_eq,decide_eq_false_iff_not];omega
theorem pw(c:Int):aL Tryz.prog 199 [.int .u8 c] fun r=>r = .bool (dN c):=by
 rcases mN c with⟨h1,h2,h⟩ | ⟨h1,h2,h3,h4,h5,h⟩ | ⟨h1,h2,h3,h⟩ | ⟨h1,h2,h3,h4,h⟩ | ⟨h1,h2,h3,h4,h⟩ | ⟨h1,h2,h3,h⟩
 all_goals
  rw[h];refine sPx Tryz.func199 rfl rfl ?_;simp -dsimp[Tryz.f199,rO, *]
def bn(s:ByteArray)(i:Nat):Int:=((s[i]?).map fun b=>(b.toNat:Int)).getD 0
theorem iP{s:ByteArray}{i:Nat}(h:i<s.size):s[i]?=some s[i]∧(s[i].toNat:Int)=bn s i:=by
 have h1:s[i]?=some s[i]:=getElem?_pos s i h;exact⟨h1,by unfold bn;rw[h1];rfl⟩
theorem lT(bs:ByteArray):bs.data.toList.length=bs.size:=by simp
theorem ba_loop(bs:ByteArray):∀(n i:Nat) (r:List UInt8),bs.size-i=n→ByteArray.toList.loop bs i r=r.reverse++bs.data.toList.drop i
 | 0,i,r,h=>by
  have hl:=lT bs;rw[ByteArray.toList.loop,if_neg (by omega),rR (by omega),rj]
 | n+1,i,r,h=>by
  have hl:=lT bs
  have hi:i<bs.size:=by omega
  have hi2:i<bs.data.toList.length:=by omega
  rw[ByteArray.toList.loop,if_pos hi,ba_loop bs n (i+1) _ (by omega),rP hi2,List.reverse_cons,sO];congr 2
  have hi3:i<bs.data.size:=by simpa using hi2
  rw[ByteArray.get!,getElem!_pos bs.data i hi3];rfl
theorem ba_toList(bs:ByteArray):bs.toList=bs.data.toList:=by
 unfold ByteArray.toList;rw[ba_loop bs _ 0 [] rfl];rfl
theorem ba_nil(s:ByteArray):s.toList=[]↔s.size=0:=by
 rw[ba_toList];rw[←List.length_eq_zero_iff,lT]
def okAt(s:ByteArray)(i:Nat):Bool:=dN (bn s i)||(decide (i≠0)&&(decide (48≤bn s i)&&decide (bn s i≤57)))
def bp(s:ByteArray):Bool:=!decide (s.toList=[])&&decide (s.size≤24)&&!(s.toList == [110,117,108,108])&&(rh s.size).all (okAt s)
theorem allno{p:Nat→Bool}{n i:Nat}(h:i<n)(hp:p i=false):(rh n).all p=false:=by
 rw[List.all_eq_false];exact⟨i,by simpa using h,by simp[hp]⟩
theorem fA{p:Nat→Bool}{i:Nat}(h:(rh i).all p=true)(hp:p i=true):(rh (i+1)).all p=true:=by
 rw[si,List.all_append,h];simp[hp]
theorem lI(s:ByteArray)(hsz:s.size≤maxLen):aL Tryz.prog 123 [.str s] fun r=>r = .bool (bp s):=by
 by_cases h0:s.toList=[]
 ·rw[show bp s=false by simp[bp,h0]];refine sPx Tryz.func123 rfl rfl ?_;simp -dsimp[Tryz.f123,rO,h0]
 ·by_cases h24:s.size≤24
  ·cases hnl:(s.toList == [110,117,108,108])
   ·rw[show bp s=(rh s.size).all (okAt s) by simp[bp,h0,h24,hnl]];refine sPx Tryz.func123 rfl rfl ?_;simp -dsimp[Tryz.f123,rO,h0,hnl,show ¬(24:Int)<s.size by omega];refine aG (W_loopM 58 0x3fffffffff8003c (by simp[mB]<;>rfl) (σ:=Nat) (fun i=>i≤s.size∧(rh i).all (okAt s)=true) (fun i=>s.size-i) (fun i=>[(19,.int .i64 i)]) (fun _=>[]) 0 ⟨by omega,rfl⟩ (by simp) rfl (by simp) ?_);rintro i ⟨hi,hall⟩ N Q hN hQ;by_cases hb:i<s.size
    ·obtain⟨hx1,hx2⟩:=iP hb;have hok:okAt s i=(dN (bn s i)||(decide (i≠0)&&(decide (48≤bn s i)&&decide (bn s i≤57)))):=rfl;obtain⟨c,hc⟩:∃c,c=bn s i:=⟨_,rfl⟩;rw[←hc]at hx2 hok
     rcases mN c with⟨h1,h2,h⟩ | ⟨h1,h2,h3,h4,h5,h⟩ | ⟨h1,h2,h3,h⟩ | ⟨h1,h2,h3,h4,h⟩ | ⟨h1,h2,h3,h4,h⟩ | ⟨h1,h2,h3,h⟩
     ·rw[h,uS]at hok;refine wx ?_;simp -dsimp[hb,hx1,hx2,h1,h2,aH i (by unfold maxLen at hsz;omega)];refine hN (i+1) _ _ ⟨by omega,fA hall hok⟩ (by omega) ?_ ⟨[],?_⟩ ?_ ?_<;>simp[or_imp,forall_and,L1,aE]
     ·by_cases hi0:i=0
      ·subst hi0;rw[h,sf,decide_eq_false (by simp),rZ]at hok;refine wx ?_;simp -dsimp[hb,hx1,hx2,h1,h2,h3,h4,h5];refine hQ _ _ _ ?_;simp -dsimp[];exact⟨_,hb,hok⟩
      ·rw[h,sf,decide_eq_true hi0,re,decide_eq_false (show ¬c≤57 by omega),sv]at hok;refine wx ?_;simp -dsimp[hb,hx1,hx2,h1,h2,h3,h4,h5,hi0,show ¬c<48 by omega,show 57<c by omega];refine hQ _ _ _ ?_;simp -dsimp[];exact⟨_,hb,hok⟩
     ·rw[h,uS]at hok;refine wx ?_;simp -dsimp[hb,hx1,hx2,h1,h2,h3,aH i (by unfold maxLen at hsz;omega)];refine hN (i+1) _ _ ⟨by omega,fA hall hok⟩ (by omega) ?_ ⟨[],?_⟩ ?_ ?_<;>simp[or_imp,forall_and,L1,aE]
     ·rw[h,uS]at hok;refine wx ?_;simp -dsimp[hb,hx1,hx2,h1,h2,h3,h4,aH i (by unfold maxLen at hsz;omega)];refine hN (i+1) _ _ ⟨by omega,fA hall hok⟩ (by omega) ?_ ⟨[],?_⟩ ?_ ?_<;>simp[or_imp,forall_and,L1,aE]
     ·by_cases hi0:i=0
      ·subst hi0;rw[h,sf,decide_eq_false (by simp),rZ]at hok;refine wx ?_;simp -dsimp[hb,hx1,hx2,h1,h2,h3,h4];refine hQ _ _ _ ?_;simp -dsimp[];exact⟨_,hb,hok⟩
      ·rw[h,sf,decide_eq_true hi0,re,decide_eq_false (show ¬c≤57 by omega),sv]at hok;refine wx ?_;simp -dsimp[hb,hx1,hx2,h1,h2,h3,h4,hi0,show ¬c<48 by omega,show 57<c by omega];refine hQ _ _ _ ?_;simp -dsimp[];exact⟨_,hb,hok⟩
     ·by_cases hi0:i=0
      ·subst hi0;rw[h,sf,decide_eq_false (by simp),rZ]at hok;refine wx ?_;simp -dsimp[hb,hx1,hx2,h1,h2,h3];refine hQ _ _ _ ?_;simp -dsimp[];exact⟨_,hb,hok⟩
      ·by_cases h48:c<48
       ·rw[h,sf,decide_eq_false (show ¬48≤c by omega),rZ,sv]at hok;refine wx ?_;simp -dsimp[hb,hx1,hx2,h1,h2,h3,hi0,h48];refine hQ _ _ _ ?_;simp -dsimp[];exact⟨_,hb,hok⟩
       ·by_cases h57:57<c
        ·rw[h,sf,decide_eq_true hi0,re,decide_eq_false (show ¬c≤57 by omega),sv]at hok;refine wx ?_;simp -dsimp[hb,hx1,hx2,h1,h2,h3,hi0,h48,h57];refine hQ _ _ _ ?_;simp -dsimp[];exact⟨_,hb,hok⟩
        ·rw[h,sf,decide_eq_true hi0,re,decide_eq_true (show c≤57 by omega),decide_eq_true (show 48≤c by omega),vK]at hok;refine wx ?_;simp -dsimp[hb,hx1,hx2,h1,h2,h3,hi0,h48,h57,aH i (by unfold maxLen at hsz;omega)];refine hN (i+1) _ _ ⟨by omega,fA hall hok⟩ (by omega) ?_ ⟨[],?_⟩ ?_ ?_<;>simp[or_imp,forall_and,L1,aE]
    ·obtain rfl:i=s.size:=by omega
     refine wx ?_;simp -dsimp[hb];refine hQ _ _ _ ?_;simp -dsimp[];simpa using hall
   ·rw[show bp s=false by simp[bp,hnl]];refine sPx Tryz.func123 rfl rfl ?_;simp -dsimp[Tryz.f123,rO,h0,hnl,show ¬(24:Int)<s.size by omega]
  ·rw[show bp s=false by simp[bp,h24]];refine sPx Tryz.func123 rfl rfl ?_;simp -dsimp[Tryz.f123,rO,h0,show(24:Int)<s.size by omega]
theorem lG(s:ByteArray)(hsz:s.size≤maxLen):aL Tryz.prog 140 [.str s] fun r=>r = .bool (bp s):=by
 by_cases h0:s.toList=[]
 ·rw[show bp s=false by simp[bp,h0]];have h00:=(ba_nil s).1 h0;refine sPx Tryz.func140 rfl rfl ?_;simp -dsimp[Tryz.f140,rO,h00]
 ·have h00:¬s.size=0:=fun h=>h0 ((ba_nil s).2 h)
  have hpos:0<s.size:=by omega
  obtain⟨hx1,hx2⟩:=iP hpos;have hl0:=pw (bn s 0);rw[←hx2]at hl0;by_cases h24:s.size≤24
  ·cases hlt:dN (bn s 0)
   ·have hok0:okAt s 0=false:=by unfold okAt;rw[hlt];simp
    rw[show bp s=false by unfold bp;rw[allno hpos hok0,sv]];rw[hx2,hlt]at hl0;rw[←hx2]at hl0;refine sPx Tryz.func140 rfl rfl ?_;simp -dsimp[Tryz.f140,rO,h00,show ¬(24:Int)<s.size by omega,hx1];refine cPx (hl0) (by simp) ?_;simp -dsimp[]
   ·rw[hx2,hlt]at hl0;rw[←hx2]at hl0;cases hnl:(s.toList == [110,117,108,108])
    ·rw[show bp s=(rh s.size).all (okAt s) by simp[bp,h0,h24,hnl]];refine sPx Tryz.func140 rfl rfl ?_;simp -dsimp[Tryz.f140,rO,h00,show ¬(24:Int)<s.size by omega,hx1];refine cPx (hl0) (by simp) ?_;simp -dsimp[hnl];refine aG (W_loopM 45 0x1fffffc0000c (by simp[mB]<;>rfl) (σ:=Nat) (fun i=>i≤s.size∧(rh i).all (okAt s)=true) (fun i=>s.size-i) (fun i=>[(3,.int .i64 i)]) (fun _=>[]) 0 ⟨by omega,rfl⟩ (by simp) rfl (by simp) ?_);rintro i ⟨hi,hall⟩ N Q hN hQ;by_cases hb:i<s.size
     ·obtain⟨hy1,hy2⟩:=iP hb;have hok:okAt s i=(dN (bn s i)||(decide (i≠0)&&(decide (48≤bn s i)&&decide (bn s i≤57)))):=rfl;obtain⟨c,hc⟩:∃c,c=bn s i:=⟨_,rfl⟩;rw[←hc]at hy2 hok;have hlc:=pw c;cases h:dN c
      ·have hi0:¬i=0:=fun e=>by subst e;rw[←hc]at hlt;rw[hlt]at h;cases h
       rw[h]at hlc;rw[h,sf,decide_eq_true hi0,re]at hok;by_cases h48:c<48
       ·rw[decide_eq_false (show ¬48≤c by omega),rZ]at hok;refine wx ?_;simp -dsimp[hb,hy1,hy2];refine cPx (hlc) (by simp) ?_;simp -dsimp[hb,hy1,hy2,h48];refine hQ _ _ _ ?_;simp -dsimp[];exact⟨_,hb,hok⟩
       ·by_cases h57:57<c
        ·rw[decide_eq_false (show ¬c≤57 by omega),sv]at hok;refine wx ?_;simp -dsimp[hb,hy1,hy2];refine cPx (hlc) (by simp) ?_;simp -dsimp[hb,hy1,hy2,h48,h57];refine hQ _ _ _ ?_;simp -dsimp[];exact⟨_,hb,hok⟩
        ·rw[decide_eq_true (show c≤57 by omega),decide_eq_true (show 48≤c by omega),vK]at hok;refine wx ?_;simp -dsimp[hb,hy1,hy2];refine cPx (hlc) (by simp) ?_;simp -dsimp[hb,hy1,hy2,h48,h57,aH i (by unfold maxLen at hsz;omega)];refine hN (i+1) _ _ ⟨by omega,fA hall hok⟩ (by omega) ?_ ⟨[],?_⟩ ?_ ?_<;>simp[or_imp,forall_and,L1,aE]
      ·rw[h]at hlc;rw[h,uS]at hok;refine wx ?_;simp -dsimp[hb,hy1,hy2];refine cPx (hlc) (by simp) ?_;simp -dsimp[aH i (by unfold maxLen at hsz;omega)];refine hN (i+1) _ _ ⟨by omega,fA hall hok⟩ (by omega) ?_ ⟨[],?_⟩ ?_ ?_<;>simp[or_imp,forall_and,L1,aE]
     ·obtain rfl:i=s.size:=by omega
      refine wx ?_;simp -dsimp[hb];refine hQ _ _ _ ?_;simp -dsimp[];simpa using hall
    ·rw[show bp s=false by simp[bp,hnl]];refine sPx Tryz.func140 rfl rfl ?_;simp -dsimp[Tryz.f140,rO,h00,show ¬(24:Int)<s.size by omega,hx1];refine cPx (hl0) (by simp) ?_;simp -dsimp[hnl]
  ·rw[show bp s=false by simp[bp,h24]];refine sPx Tryz.func140 rfl rfl ?_;simp -dsimp[Tryz.f140,rO,h00,show(24:Int)<s.size by omega]
def LS(f:Bool)(ss:List ByteArray):V:=.lst 1 f (ss.map V.str)
@[simp] theorem LS_pure (f:Bool) (ss:List ByteArray):AM.Pure (LS f ss):=by simp[LS]
@[simp] theorem pure_takeS (i:Nat) (ss:List ByteArray):(∀x,x∈uH i (List.map V.str ss)→AM.Pure x)↔True:=iff_true_intro fun x hx=>by
 obtain⟨s,_,rfl⟩:=List.mem_map.1 (sD hx);exact .str s
def ixS(ss:List ByteArray)(x:ByteArray)(i:Nat):Int:=if h:i<ss.length then(if(x.toList == ss[i].toList)=true then(i:Int) else ixS ss x (i+1)) else -1
termination_by ss.length-i
def memS(ss:List ByteArray)(x:ByteArray):Bool:=ss.any fun e=>x.toList == e.toList
theorem ixS_mem(ss:List ByteArray)(x:ByteArray)(i:Nat):decide (0≤ixS ss x i)=memS (ss.drop i) x:=by
 unfold memS
 fun_induction ixS ss x i with
 | case1 i h h0=>rw[rP h,tK,h0];simp
 | case2 i h h0 ih=>rw[rP h,tK,ih];simp[h0]
 | case3 i h=>rw[rR (by omega)];rfl
theorem indexS(ss:List ByteArray)(x:ByteArray)(f:Bool)(hl:ss.length≤1000000):aL Tryz.prog 173 [LS f ss,.str x] fun r=>r = .int .i64 (ixS ss x 0):=by
 refine sPx Tryz.func173 rfl rfl ?_;simp -dsimp[Tryz.f173,rO,LS];refine aG (W_loopM 19 0x7ff30 (by simp[mB]<;>rfl) (σ:=Nat) (fun i=>ixS ss x i=ixS ss x 0) (fun i=>ss.length-i) (fun i=>[(8,.int .i64 i)]) (fun _=>[]) 0 rfl (by simp) rfl (by simp) ?_);intro i hx N Q hN hQ;by_cases hb:i<ss.length
 ·rw[ixS,dif_pos hb]at hx;cases hq:(x.toList == ss[i].toList)
  ·rw[hq,if_neg (by simp)]at hx;refine wx ?_;simp -dsimp[hb,hq];simp -dsimp[aH i (by omega)];refine hN (i+1) _ _ hx (by omega) (by simp) ⟨[],rfl⟩ (by simp) (by simp)
  ·rw[hq,if_pos rfl]at hx;refine wx ?_;simp -dsimp[hb,hq];refine hQ _ _ _ ?_;simp -dsimp[];exact hx
 ·rw[ixS,dif_neg hb]at hx;refine wx ?_;simp -dsimp[hb];refine hQ _ _ _ ?_;simp -dsimp[];exact hx
theorem containsS(ss:List ByteArray)(x:ByteArray)(f:Bool)(hl:ss.length≤1000000):aL Tryz.prog 124 [LS f ss,.str x] fun r=>r = .bool (memS ss x):=by
 have h0:=ixS_mem ss x 0;rw[rk]at h0;refine sPx Tryz.func124 rfl rfl ?_;simp -dsimp[Tryz.f124,rO];refine cPx (indexS ss x f hl) (by simp) ?_;simp -dsimp[];rw[←h0]
theorem beq_comm'(a b:List UInt8):(a == b)=(b == a):=by rw[sb,beq_iff_eq,beq_iff_eq];exact eq_comm
theorem attrS(ss:List ByteArray)(x:ByteArray)(f:Bool)(hl:ss.length≤1000000):aL Tryz.prog 200 [LS f ss,.str x] fun r=>r = .int .i64 (ixS ss x 0):=by
 refine sPx Tryz.func200 rfl rfl ?_;simp -dsimp[Tryz.f200,rO,LS];refine aG (W_loopM 19 0x7fff0 (by simp[mB]<;>rfl) (σ:=Nat) (fun i=>ixS ss x i=ixS ss x 0) (fun i=>ss.length-i) (fun i=>[(5,.int .i64 i)]) (fun _=>[]) 0 rfl (by simp) rfl (by simp) ?_);intro i hx N Q hN hQ;by_cases hb:i<ss.length
 ·rw[ixS,dif_pos hb,beq_comm']at hx;cases hq:(ss[i].toList == x.toList)
  ·rw[hq,if_neg (by simp)]at hx;refine wx ?_;simp -dsimp[hb,hq];simp -dsimp[aH i (by omega)];refine hN (i+1) _ _ hx (by omega) (by simp) ⟨[],rfl⟩ (by simp) (by simp)
  ·rw[hq,if_pos rfl]at hx;refine wx ?_;simp -dsimp[hb,hq];refine hQ _ _ _ ?_;simp -dsimp[];exact hx
 ·rw[ixS,dif_neg hb]at hx;refine wx ?_;simp -dsimp[hb];refine hQ _ _ _ ?_;simp -dsimp[];exact hx
def sAt(ss:List ByteArray)(i:Nat):ByteArray:=ss.getD i rY
def nmAt(ss:List ByteArray)(i:Nat):Bool:=bp (sAt ss i)&&!memS (ss.take i) (sAt ss i)
def fq(ss:List ByteArray):Bool:=(rh ss.length).all (nmAt ss)
theorem names03(ss:List ByteArray)(f:Bool)(hl:ss.length≤1000000)(hs:∀s∈ss,s.size≤maxLen):aL Tryz.prog 141 [LS f ss] fun r=>r = .bool (fq ss):=by
 unfold fq;refine sPx Tryz.func141 rfl rfl ?_;simp -dsimp[Tryz.f141,rO,LS];refine aG (W_loopM 27 0x7fffffc (by simp[mB]<;>rfl) (σ:=Nat) (fun i=>i≤ss.length∧(rh i).all (nmAt ss)=true) (fun i=>ss.length-i) (fun i=>[(3,.int .i64 i)]) (fun _=>[]) 0 ⟨by omega,rfl⟩ (by simp) rfl (by simp) ?_);rintro i ⟨hi,hall⟩ N Q hN hQ;by_cases hb:i<ss.length
 ·have hsi:sAt ss i=ss[i]:=by simp[sAt,hb]
  have hok:nmAt ss i=(bp ss[i]&&!memS (ss.take i) ss[i]):=by unfold nmAt;rw[hsi]
  have hc1:=lG ss[i] (hs _ (rQ hb));have hc2:=attrS (ss.take i) ss[i] (f&&i == ss.length) (by simp;omega);have hm:=ixS_mem (ss.take i) ss[i] 0;rw[rk]at hm;simp only[LS,tj]at hc2;cases h1:bp ss[i]
  ·rw[h1,rZ]at hok;rw[h1]at hc1;refine wx ?_;simp -dsimp[hb];refine .inr ⟨aC (by kernel_rfl),?_⟩;refine aN _ (aK (hc1) (by simp)) ?_;simp -dsimp[];refine hQ _ _ _ ?_;simp -dsimp[];exact⟨_,hb,hok⟩
  ·rw[h1,re]at hok;rw[h1]at hc1;cases h2:memS (ss.take i) ss[i]
   ·rw[h2]at hok hm;have hneg:=of_decide_eq_false hm;refine wx ?_;simp -dsimp[hb];refine .inr ⟨aC (by kernel_rfl),?_⟩;refine aN _ (aK (hc1) (by simp)) ?_;simp -dsimp[hb,show i≤ss.length by omega];refine aN _ (aK (hc2) (by simp)) ?_;simp -dsimp[show ¬0≤ixS (ss.take i) ss[i] 0 by omega,aH i (by omega)];refine hN (i+1) _ _ ⟨by omega,fA hall (by rw[hok];rfl)⟩ (by omega) ?_ ⟨[],?_⟩ ?_ ?_<;>simp[or_imp,forall_and,L1,aE]
   ·rw[h2]at hok hm;have hneg:=of_decide_eq_true hm;refine wx ?_;simp -dsimp[hb];refine .inr ⟨aC (by kernel_rfl),?_⟩;refine aN _ (aK (hc1) (by simp)) ?_;simp -dsimp[hb,show i≤ss.length by omega];refine aN _ (aK (hc2) (by simp)) ?_;simp -dsimp[hneg];refine hQ _ _ _ ?_;simp -dsimp[];exact⟨_,hb,hok⟩
 ·obtain rfl:i=ss.length:=by omega
  refine wx ?_;simp -dsimp[hb];refine hQ _ _ _ ?_;simp -dsimp[];simpa using hall
structure Vl where
 k:Int
 n:Int
 s:ByteArray
def aX(v:Vl):V:=.agg [.int .i64 v.k,.int .i64 v.n,.str v.s]
def LV(f:Bool)(vs:List Vl):V:=.lst 3 f (vs.map aX)
@[simp] theorem encV_pure (v:Vl):AM.Pure (aX v):=by simp[aX]
@[simp] theorem LV_pure (f:Bool) (vs:List Vl):AM.Pure (LV f vs):=by simp[LV]
@[simp] theorem encV_oneV (v:Vl):dV (aX v)=true:=rfl
def bW(v:Vl):Bool :=
 if v.k=0 then decide (v.n=0)&&v.s.toList.isEmpty else if v.k=1 then v.s.toList.isEmpty else
 if v.k=2 then decide (v.n=0)&&decide (v.s.size≤200) else decide (v.k=3)&&(decide (1≤v.n)&&v.s.toList.isEmpty)
theorem valid01(v:Vl):aL Tryz.prog 201 [aX v] fun r=>r = .bool (bW v):=by
 unfold bW;by_cases h0:v.k=0
 ·by_cases hn:v.n=0
  ·rw[if_pos h0,decide_eq_true hn,re];refine sPx Tryz.func201 rfl rfl ?_;simp -dsimp[Tryz.f201,rO,aX,h0,hn]
  ·rw[if_pos h0,decide_eq_false hn,rZ];refine sPx Tryz.func201 rfl rfl ?_;simp -dsimp[Tryz.f201,rO,aX,h0,hn]
 ·rw[if_neg h0];by_cases h1:v.k=1
  ·rw[if_pos h1];refine sPx Tryz.func201 rfl rfl ?_;simp -dsimp[Tryz.f201,rO,aX,h1]
  ·rw[if_neg h1];by_cases h2:v.k=2
   ·rw[if_pos h2];by_cases hn:v.n=0
    ·rw[decide_eq_true hn,re];by_cases hz:v.s.size≤200
     ·rw[decide_eq_true hz];refine sPx Tryz.func201 rfl rfl ?_;simp -dsimp[Tryz.f201,rO,aX,h2,hn,show(v.s.size:Int)≤200 by omega]
     ·rw[decide_eq_false hz];refine sPx Tryz.func201 rfl rfl ?_;simp -dsimp[Tryz.f201,rO,aX,h2,hn,show ¬(v.s.size:Int)≤200 by omega]
    ·rw[decide_eq_false hn,rZ];refine sPx Tryz.func201 rfl rfl ?_;simp -dsimp[Tryz.f201,rO,aX,h2,hn]
   ·rw[if_neg h2];by_cases h3:v.k=3
    ·rw[decide_eq_true h3,re];by_cases hn:1≤v.n
     ·rw[decide_eq_true hn,re];refine sPx Tryz.func201 rfl rfl ?_;simp -dsimp[Tryz.f201,rO,aX,h3,hn]
     ·rw[decide_eq_false hn,rZ];refine sPx Tryz.func201 rfl rfl ?_;simp -dsimp[Tryz.f201,rO,aX,h3,hn]
    ·rw[decide_eq_false h3,rZ];refine sPx Tryz.func201 rfl rfl ?_;simp -dsimp[Tryz.f201,rO,aX,h0,h1,h2,h3]
theorem kx(v:Vl):aL Tryz.prog 176 [aX v] fun r=>r = .bool (bW v):=by
 unfold bW;by_cases h0:v.k=0
 ·by_cases hn:v.n=0
  ·rw[if_pos h0,decide_eq_true hn,re];refine sPx Tryz.func176 rfl rfl ?_;simp -dsimp[Tryz.f176,rO,aX,h0,hn]
  ·rw[if_pos h0,decide_eq_false hn,rZ];refine sPx Tryz.func176 rfl rfl ?_;simp -dsimp[Tryz.f176,rO,aX,h0,hn]
 ·rw[if_neg h0];by_cases h1:v.k=1
  ·rw[if_pos h1];refine sPx Tryz.func176 rfl rfl ?_;simp -dsimp[Tryz.f176,rO,aX,h1]
  ·rw[if_neg h1];by_cases h2:v.k=2
   ·rw[if_pos h2];by_cases hn:v.n=0
    ·rw[decide_eq_true hn,re];by_cases hz:v.s.size≤200
     ·rw[decide_eq_true hz];refine sPx Tryz.func176 rfl rfl ?_;simp -dsimp[Tryz.f176,rO,aX,h2,hn,show(v.s.size:Int)≤200 by omega]
     ·rw[decide_eq_false hz];refine sPx Tryz.func176 rfl rfl ?_;simp -dsimp[Tryz.f176,rO,aX,h2,hn,show ¬(v.s.size:Int)≤200 by omega]
    ·rw[decide_eq_false hn,rZ];refine sPx Tryz.func176 rfl rfl ?_;simp -dsimp[Tryz.f176,rO,aX,h2,hn]
   ·rw[if_neg h2];by_cases h3:v.k=3
    ·rw[decide_eq_true h3,re];by_cases hn:1≤v.n
     ·rw[decide_eq_true hn,re];refine sPx Tryz.func176 rfl rfl ?_;simp -dsimp[Tryz.f176,rO,aX,h3,hn]
     ·rw[decide_eq_false hn,rZ];refine sPx Tryz.func176 rfl rfl ?_;simp -dsimp[Tryz.f176,rO,aX,h3,hn]
    ·rw[decide_eq_false h3,rZ];refine sPx Tryz.func176 rfl rfl ?_;simp -dsimp[Tryz.f176,rO,aX,h0,h1,h2,h3]
theorem any_drop(p:Vl→Bool)(vs:List Vl)(i:Nat)(h:i<vs.length):(vs.drop i).all p=(p vs[i]&&(vs.drop (i+1)).all p):=by rw[rP h];rfl
theorem valids01(vs:List Vl)(f:Bool)(hl:vs.length≤1000000):aL Tryz.prog 142 [LV f vs] fun r=>r = .bool (vs.all bW):=by
 obtain⟨E,hE⟩:∃E,E=vs.all bW:=⟨_,rfl⟩;rw[←hE];refine sPx Tryz.func142 rfl rfl ?_;simp -dsimp[Tryz.f142,rO,LV];refine aG (W_loopM 16 0xfffc (by simp[mB]<;>rfl) (σ:=Nat) (fun i=>(vs.drop i).all bW=E) (fun i=>vs.length-i) (fun i=>[(3,.int .i64 i)]) (fun _=>[]) 0 (by rw[rk,hE]) (by simp) rfl (by simp) ?_);rintro i hx N Q hN hQ;by_cases hb:i<vs.length
 ·rw[any_drop _ _ _ hb]at hx;have hc:=valid01 vs[i];cases h1:bW vs[i]
  ·rw[h1]at hc;rw[h1,rZ]at hx;refine wx ?_;simp -dsimp[hb];refine cPx (hc) (by simp) ?_;simp -dsimp[];refine hQ _ _ _ ?_;simp -dsimp[];simpa using hx
  ·rw[h1]at hc;rw[h1,re]at hx;refine wx ?_;simp -dsimp[hb];refine cPx (hc) (by simp) ?_;simp -dsimp[aH i (by omega)];refine hN (i+1) _ _ hx (by omega) (by simp) ⟨[],rfl⟩ (by simp) (by simp)
 ·rw[rR (by omega)]at hx;refine wx ?_;simp -dsimp[hb];refine hQ _ _ _ ?_;simp -dsimp[];simpa using hx
def ixV(p:Vl→Bool)(vs:List Vl)(i:Nat):Int:=if h:i<vs.length then(if p vs[i] then(i:Int) else ixV p vs (i+1)) else -1
termination_by vs.length-i
theorem ixV_any(p:Vl→Bool)(vs:List Vl)(i:Nat):decide (0≤ixV p vs i)=(vs.drop i).any p:=by
 fun_induction ixV p vs i with
 | case1 i h h0=>rw[rP h,tK,h0];simp
 | case2 i h h0 ih=>rw[rP h,tK,ih];simp[h0]
 | case3 i h=>rw[rR (by omega)];rfl
theorem idxFuncV(H:List B)(fv:V)(p:Vl→Bool)(vs:List Vl)(g:Bool)(hes:vs.length≤1000000)(hH:∀bl∈H,rbB H.length bl)(hfv:rb H.length fv)
  (hp:∀m∈vs,aQ Tryz.prog fv [aX m] H fun r H'=>r = .bool (p m)∧H'=H):av Tryz.prog 234 [LV g vs,fv] H fun r H'=>r = .int .i64 (ixV p vs 0)∧H'=H:=by
 refine aF tok Tryz.func234 rfl rfl ?_;refine wx ?_;simp -dsimp[Tryz.f234,rO,LV];refine aG (W_loopM 19 0x7ff30 (by simp[mB]<;>rfl) (σ:=Nat) (fun i=>ixV p vs i=ixV p vs 0) (fun i=>vs.length-i) (fun i=>[(8,.int .i64 i)]) (fun _=>H) 0 rfl (by simp) rfl (by simp) ?_);intro i hx N Q hN hQ;by_cases hb:i<vs.length
 ·rw[ixV,dif_pos hb]at hx;have hc:=hp vs[i] (rQ hb);cases hq:p vs[i]
  ·rw[hq]at hc hx;refine wx ?_;simp -dsimp[hb];refine hc.mono ?_;rintro r H' ⟨rfl,rfl⟩;simp -dsimp[aH i (by omega)];refine hN (i+1) _ _ (by simpa using hx) (by omega) (by simp) ⟨[],by simp⟩ (by simp;exact hfv) hH
  ·rw[hq]at hc hx;refine wx ?_;simp -dsimp[hb];refine hc.mono ?_;rintro r H' ⟨rfl,rfl⟩;simp -dsimp[];refine hQ _ _ _ ?_;simp -dsimp[];simpa using hx
 ·rw[ixV,dif_neg hb]at hx;refine wx ?_;simp -dsimp[hb];refine hQ _ _ _ ?_;simp -dsimp[];simpa using hx
theorem contFuncV(H:List B)(fv:V)(p:Vl→Bool)(vs:List Vl)(g:Bool)(hes:vs.length≤1000000)(hH:∀bl∈H,rbB H.length bl)(hfv:rb H.length fv)
  (hp:∀m∈vs,aQ Tryz.prog fv [aX m] H fun r H'=>r = .bool (p m)∧H'=H):av Tryz.prog 174 [LV g vs,fv] H fun r H'=>r = .bool (vs.any p)∧H'=H:=by
 have h0:=ixV_any p vs 0;rw[rk]at h0;have hc:=idxFuncV H fv p vs g hes hH hfv hp;refine aF tok Tryz.func174 rfl rfl ?_;refine wx ?_;simp -dsimp[Tryz.f174,rO];refine aQ.mono (K:=fun r H'=>r = .int .i64 (ixV p vs 0)∧H'=H) hc ?_;rintro r H' ⟨rfl,rfl⟩;simp -dsimp[];rw[←h0]
theorem notValid(v:Vl):aL Tryz.prog 175 [aX v] fun r=>r = .bool (!bW v):=by
 have hc:=kx v;simp only[aX]at hc;refine sPx Tryz.func175 rfl rfl ?_;simp -dsimp[Tryz.f175,rO,aX];refine cPx (hc) (by simp) ?_;simp -dsimp[]
theorem validVals(vs:List Vl)(f:Bool)(hl:vs.length≤1000000):aL Tryz.prog 125 [LV f vs] fun r=>r = .bool (vs.all bW):=by
 have hc:=contFuncV [] (.fn 175 []) (fun v=>!bW v) vs f hl (by simp) (by simp) (fun m _=>aK (notValid m) (by simp))
 have he:vs.all bW = !vs.any fun v=>!bW v:=by
  induction vs with
  | nil=>rfl
  | cons v vs ih=>simp only[sZ,tK,Bool.not_or,Bool.not_not];rw[ih (by simp at hl;omega) (contFuncV [] (.fn 175 []) (fun v=>!bW v) vs f (by simp at hl;omega) (by simp) (by simp) (fun m _=>aK (notValid m) (by simp)))]
 rw[he];refine sPx Tryz.func125 rfl rfl ?_;simp -dsimp[Tryz.f125,rO];refine aQ.mono (K:=fun r H'=>r = .bool (vs.any fun v=>!bW v)∧H'=[]) hc ?_;rintro r H' ⟨rfl,rfl⟩;simp -dsimp[]
end
end Go.Proofs.YtjogkbekekdkjaaGreatDoor
