/- JX13: own texts of this seat, joined and shortened by pack4.py: T7, T8, Ve, T9, T10, G1, Vp, Vf, Vb, Rc, G2, ClR, BF. -/
import Derived.Test.YtjogkbekekdkjaaGreatDoorJX12
import Derived.WalkSpells
import Derived.WalkLawsBesides
import Derived.Lib.Hide
import Derived.Maps.AppendAt
set_option linter.unusedVariables false
set_option linter.unusedSimpArgs false
set_option maxRecDepth 100000
set_option maxHeartbeats 64000000
open Bool renaming and_eq_true→rX,true_and→re,false_eq_true→rn,not_eq_true'→sL,or_eq_true→sV,eq_iff_iff→sb,not_eq_true→sg
open ByteArray renaming empty→rY
open Int renaming tmod_lt_of_pos→sR,tmod_nonneg→sW
open List renaming replicate→rO,drop_eq_getElem_cons→rP,getElem_mem→rQ,drop_of_length_le→rR,mem_cons→rU,take_succ_eq_append_getElem→rV,range→rh,length_append→ri,append_nil→rj,drop_zero→rk,length_filter_le→rz,length_cons→sB,mem_singleton→sC,mem_of_mem_take→sD,mem_cons_self→sE,mem_cons_of_mem→sG,all_eq_true→sH,take_length→sJ,length_map→sK,append_assoc→sO,cons_append→sP,map_append→sX,all_cons→sZ,mem_of_mem_drop→sh,range_succ→si,getElem?_cons_zero→sj,getElem?_cons_succ→sk,filter_cons_of_pos→sq,filter_cons_of_neg→sr,mem_append→sx,map_cons→tF,any_cons→tK,filter_append→tW,mem_filter→tX,foldl_cons→ta,length_nil→td,flatMap_cons→tp,map_nil→tt,singleton_append→tu,pairwise_cons→uA,all_nil→uL,any_eq_true→uO,pairwise_map→uV,mem_map→uZ,mem_flatMap→vH
open Nat renaming le_refl→rd,mul_le_mul_right→ro,le_trans→sF,lt_of_lt_of_le→sI,add_mul→sM,zero_le→sY,pow_le_pow_right→sd,lt_or_ge→sy,lt_of_le_of_lt→tV,testBit_lt_two_pow→te,mul_comm→uB,pow_lt_pow_right→uE,or_lt_two_pow→uU,strongRecOn→ud,mod_eq_of_lt→ur,testBit_two_pow→uz,and_le_left→vB,testBit_and→vC,pow_succ→vF,min_eq_left→vO,succ_mul→vS
namespace Go.Proofs.YtjogkbekekdkjaaGreatDoor
section
open Go Go.AM
theorem nanInt(x:Int):aL Tryz.prog 269 [.int .i64 x] fun r=>r = .bool false:=by
 refine sPx Tryz.func269 rfl rfl ?_;simp -dsimp[Tryz.f269,rO]
theorem cmpInt(x y:Int):aL Tryz.prog 284 [.int .i64 x,.int .i64 y] fun r=>r = .int .i64 (cx x y):=by
 refine sPx Tryz.func284 rfl rfl ?_;simp -dsimp[Tryz.f284,rO];refine cPx (nanInt x) (by simp) ?_;simp -dsimp[];refine cPx (nanInt y) (by simp) ?_;simp -dsimp[];unfold cx;split
 ·rfl
 ·split<;>rfl
theorem pQ(x y:Int):aL Tryz.prog 276 [.int .i64 x,.int .i64 y] fun r=>r = .int .i64 (cx x y):=by
 refine sPx Tryz.func276 rfl rfl ?_;simp -dsimp[Tryz.f276,rO];unfold cx;split
 ·rfl
 ·split<;>rfl
theorem cmpS_drop(a b:ByteArray)(i:Nat)(ha:i<a.size)(hb:i<b.size):Lib.compareBytes (a.data.toList.drop i) (b.data.toList.drop i)=if a[i]<b[i] then -1 else if b[i]<a[i] then 1 else Lib.compareBytes (a.data.toList.drop (i+1)) (b.data.toList.drop (i+1)):=by
 have h1:i<a.data.toList.length:=by rw[lT];exact ha
 have h2:i<b.data.toList.length:=by rw[lT];exact hb
 rw[rP h1,rP h2,Lib.compareBytes];rfl
theorem cmpS_end(a b:ByteArray)(i:Nat)(hi:i≤a.size)(hj:i≤b.size)(h:¬(i<a.size∧i<b.size)):Lib.compareBytes (a.data.toList.drop i) (b.data.toList.drop i)=cx a.size b.size:=by
 have l1:=lT a;have l2:=lT b;by_cases h1:i<a.size
 ·have h2:i=b.size:=by omega
  have h3:i<a.data.toList.length:=by omega
  rw[rP h3,rR (l:=b.data.toList) (by omega),Lib.compareBytes];unfold cx;rw[if_neg (by omega),if_pos (by omega)]
 ·rw[rR (l:=a.data.toList) (by omega)];by_cases h2:i<b.size
  ·have h3:i<b.data.toList.length:=by omega
   rw[rP h3,Lib.compareBytes];unfold cx;rw[if_pos (by omega)]
  ·rw[rR (l:=b.data.toList) (by omega),Lib.compareBytes];unfold cx;rw[if_neg (by omega),if_neg (by omega)]
theorem strings01(a b:ByteArray)(ha:a.size≤maxLen):aL Tryz.prog 277 [.str a,.str b] fun r=>r = .int .i64 (nc a b):=by
 refine sPx Tryz.func277 rfl rfl ?_;simp -dsimp[Tryz.f277,rO];refine aG (W_loopM 34 0x3fffffff0 (by simp[mB]<;>rfl) (σ:=Nat) (fun i=>i≤a.size∧i≤b.size∧Lib.compareBytes (a.data.toList.drop i) (b.data.toList.drop i)=nc a b) (fun i=>a.size-i) (fun i=>[(5,.int .i64 i)]) (fun _=>[]) 0 ⟨by omega,by omega,rfl⟩ (by simp) rfl (by simp) ?_);rintro i ⟨hi,hj,hx⟩ N Q hN hQ;by_cases h:i<a.size∧i<b.size
 ·obtain⟨h1,h2⟩:=h;rw[cmpS_drop a b i h1 h2]at hx;obtain⟨x1,x2⟩:=iP h1;obtain⟨y1,y2⟩:=iP h2;by_cases hq:bn a i=bn b i
  ·have e1:¬a[i]<b[i]:=fun h=>by have:=UInt8.lt_iff_toNat_lt.1 h;omega
   have e2:¬b[i]<a[i]:=fun h=>by have:=UInt8.lt_iff_toNat_lt.1 h;omega
   rw[if_neg e1,if_neg e2]at hx;refine wx ?_;simp -dsimp[h1,h2,x1,y1,x2,y2,hq];refine .inr ⟨aC (by kernel_rfl),?_⟩;simp -dsimp[aH i (by unfold maxLen at ha;omega)];refine hN (i+1) _ _ ⟨by omega,by omega,hx⟩ (by omega) ?_ ⟨[],?_⟩ ?_ ?_<;>simp[or_imp,forall_and,L1,aE]
  ·have hs:cx (bn a i) (bn b i)=nc a b:=by
    rw[←hx,←x2,←y2];unfold cx;by_cases e1:a[i]<b[i]
    ·have e1':(a[i].toNat:Int)<b[i].toNat:=by have:=UInt8.lt_iff_toNat_lt.1 e1;omega
     rw[if_pos e1,if_pos e1']
    ·have e1':¬((a[i].toNat:Int)<b[i].toNat):=fun h=>e1 (UInt8.lt_iff_toNat_lt.2 (by omega))
     have e2:b[i]<a[i]:=UInt8.lt_iff_toNat_lt.2 (by omega)
     have e2':(b[i].toNat:Int)<a[i].toNat:=by have:=UInt8.lt_iff_toNat_lt.1 e2;omega
     rw[if_neg e1,if_neg e1',if_pos e2,if_pos e2']
   have hw1:IntKind.i64.wrap (bn a i)=bn a i:=by rw[←x2];exact wrap64 (by omega) (by have:=UInt8.toNat_lt a[i];omega)
   have hw2:IntKind.i64.wrap (bn b i)=bn b i:=by rw[←y2];exact wrap64 (by omega) (by have:=UInt8.toNat_lt b[i];omega)
   have hc:=pQ (bn a i) (bn b i);refine wx ?_;simp -dsimp[h1,h2,x1,y1,x2,y2,hq];refine .inr ⟨aC (by kernel_rfl),?_⟩;simp -dsimp[h1,h2,x1,y1,x2,y2,hw1,hw2];refine .inr ⟨aC (by kernel_rfl),?_⟩;refine aN _ (aK (hc) (by simp)) ?_;simp -dsimp[];refine hQ _ _ _ ?_;simp -dsimp[];exact hs
 ·rw[cmpS_end a b i hi hj h]at hx;have hc:=pQ a.size b.size;by_cases h1:i<a.size
  ·have h2:¬i<b.size:=fun h2=>h ⟨h1,h2⟩
   refine wx ?_;simp -dsimp[h1,h2];refine hQ _ _ _ ?_;simp -dsimp[];refine cPx (hc) (by simp) ?_;simp -dsimp[];exact hx
  ·refine wx ?_;simp -dsimp[h1];refine hQ _ _ _ ?_;simp -dsimp[];refine cPx (hc) (by simp) ?_;simp -dsimp[];exact hx
def eX(a b:Vl):Int:=if cx a.k b.k=0 then(if cx a.n b.n=0 then nc a.s b.s else cx a.n b.n) else cx a.k b.k
theorem fW(a b:Vl)(ha:a.s.size≤maxLen):aL Tryz.prog 258 [aX a,aX b] fun r=>r = .int .i64 (eX a b):=by
 have hc1:=pQ a.k b.k;have hc2:=pQ a.n b.n;have hc3:=strings01 a.s b.s ha;unfold eX;by_cases h1:cx a.k b.k=0
 ·by_cases h2:cx a.n b.n=0
  ·rw[if_pos h1,if_pos h2];refine sPx Tryz.func258 rfl rfl ?_;simp -dsimp[Tryz.f258,rO,aX];refine cPx (hc1) (by simp) ?_;simp -dsimp[h1];refine cPx (hc2) (by simp) ?_;simp -dsimp[h2];refine cPx (hc3) (by simp) ?_;simp -dsimp[]
  ·rw[if_pos h1,if_neg h2];refine sPx Tryz.func258 rfl rfl ?_;simp -dsimp[Tryz.f258,rO,aX];refine cPx (hc1) (by simp) ?_;simp -dsimp[h1];refine cPx (hc2) (by simp) ?_;simp -dsimp[h2]
 ·rw[if_neg h1];refine sPx Tryz.func258 rfl rfl ?_;simp -dsimp[Tryz.f258,rO,aX];refine cPx (hc1) (by simp) ?_;simp -dsimp[h1]
def fH:List Vl→List Vl→Int
 | [],[]=>0
 | [],_::_=>-1
 | _::_,[]=>1
 | x::xs,y::ys=>if eX x y=0 then fH xs ys else eX x y
theorem cmpVs_end(us bs:List Vl)(i:Nat)(h1:i≤us.length)(h2:i≤bs.length)(h:¬(i<us.length∧i<bs.length)):fH (us.drop i) (bs.drop i)=cx us.length bs.length:=by
 unfold cx;by_cases ha:i<us.length
 ·rw[rP ha,rR (l:=bs) (by omega),fH,if_neg (by omega),if_pos (by omega)]
 ·rw[rR (l:=us) (by omega)];by_cases hb:i<bs.length
  ·rw[rP hb,fH,if_pos (by omega)]
  ·rw[rR (l:=bs) (by omega),fH,if_neg (by omega),if_neg (by omega)]
theorem lists01(us bs:List Vl)(f g:Bool)(hl:us.length≤1000000)(hs:∀v∈us,v.s.size≤maxLen):aL Tryz.prog 275 [LV f us,LV g bs] fun r=>r = .int .i64 (fH us bs):=by
 obtain⟨E,hE⟩:∃E,E=fH us bs:=⟨_,rfl⟩;rw[←hE];refine sPx Tryz.func275 rfl rfl ?_;simp -dsimp[Tryz.f275,rO,LV];refine aG (W_loopM 31 0x7ffffff0 (by simp[mB]<;>rfl) (σ:=Nat) (fun i=>i≤us.length∧i≤bs.length∧fH (us.drop i) (bs.drop i)=E) (fun i=>us.length-i) (fun i=>[(5,.int .i64 i)]) (fun _=>[]) 0 ⟨by omega,by omega,hE.symm⟩ (by simp) rfl (by simp) ?_);rintro i ⟨hi,hj,hx⟩ N Q hN hQ;by_cases h:i<us.length∧i<bs.length
 ·obtain⟨h1,h2⟩:=h;have hc:=fW us[i] bs[i] (hs _ (rQ h1));simp only[aX]at hc;rw[rP h1,rP h2,fH]at hx;by_cases h3:eX us[i] bs[i]=0
  ·rw[if_pos h3]at hx;refine wx ?_;simp -dsimp[h1,h2,aX];refine .inr ⟨aC (by kernel_rfl),?_⟩;refine aN _ (aK (hc) (by simp)) ?_;simp -dsimp[h3,aH i (by omega)];refine hN (i+1) _ _ ⟨by omega,by omega,hx⟩ (by omega) ?_ ⟨[],?_⟩ ?_ ?_<;>simp[or_imp,forall_and,L1,aE]
  ·rw[if_neg h3]at hx;refine wx ?_;simp -dsimp[h1,h2,aX];refine .inr ⟨aC (by kernel_rfl),?_⟩;refine aN _ (aK (hc) (by simp)) ?_;simp -dsimp[h3];refine hQ _ _ _ ?_;simp -dsimp[];exact hx
 ·rw[cmpVs_end us bs i hi hj h]at hx;have hc:=pQ us.length bs.length;by_cases h1:i<us.length
  ·have h2:¬i<bs.length:=fun h2=>h ⟨h1,h2⟩
   refine wx ?_;simp -dsimp[h1,h2];refine hQ _ _ _ ?_;simp -dsimp[];refine cPx (hc) (by simp) ?_;simp -dsimp[];exact hx
  ·refine wx ?_;simp -dsimp[h1];refine hQ _ _ _ ?_;simp -dsimp[];refine cPx (hc) (by simp) ?_;simp -dsimp[];exact hx
theorem same01(us bs:List Vl)(f g:Bool)(hl:us.length≤1000000)(hs:∀v∈us,v.s.size≤maxLen):aL Tryz.prog 254 [LV f us,LV g bs] fun r=>r = .bool (fH us bs == 0):=by
 have hc:=lists01 us bs f g hl hs;refine sPx Tryz.func254 rfl rfl ?_;simp -dsimp[Tryz.f254,rO];refine cPx (hc) (by simp) ?_;simp -dsimp[]
def orI:List Int→Int
 | []=>0
 | x::xs=>if x=0 then orI xs else x
theorem orInt(xs:List Int)(f:Bool)(hl:xs.length≤1000000):aL Tryz.prog 283 [L1 f xs] fun r=>r = .int .i64 (orI xs):=by
 obtain⟨E,hE⟩:∃E,E=orI xs:=⟨_,rfl⟩;rw[←hE];refine sPx Tryz.func283 rfl rfl ?_;simp -dsimp[Tryz.f283,rO,L1];refine aG (W_loopM 17 0x1ff24 (by simp[mB]<;>rfl) (σ:=Nat) (fun i=>orI (xs.drop i)=E) (fun i=>xs.length-i) (fun i=>[(8,.int .i64 i)]) (fun _=>[]) 0 hE.symm (by simp) rfl (by simp) ?_);intro i hx N Q hN hQ;by_cases hb:i<xs.length
 ·rw[rP hb,orI]at hx;by_cases h0:xs[i]=0
  ·rw[if_pos h0]at hx;refine wx ?_;simp -dsimp[hb,aE,h0];simp -dsimp[aH i (by omega)];refine hN (i+1) _ _ hx (by omega) (by simp) ⟨[],rfl⟩ (by simp[L1,aE]) (by simp)
  ·rw[if_neg h0]at hx;refine wx ?_;simp -dsimp[hb,aE,h0];refine hQ _ _ _ ?_;simp -dsimp[];exact hx
 ·rw[rR (by omega)]at hx;refine wx ?_;simp -dsimp[hb];refine hQ _ _ _ ?_;simp -dsimp[];exact hx
theorem pM(a b:ByteArray):aL Tryz.prog 285 [.str a,.str b] fun r=>r = .int .i64 (nc a b):=by
 have hc:=cmp_con a b;refine sPx Tryz.func285 rfl rfl ?_;simp -dsimp[Tryz.f285,rO];refine cPx (hc) (by simp) ?_;simp -dsimp[]
theorem lg(a b:Vl):aL Tryz.prog 270 [aX a,aX b] fun r=>r = .int .i64 (eX a b):=by
 have hc1:=cmpInt a.k b.k;have hc2:=cmp64 a.n b.n;have hc3:=pM a.s b.s;have hc4:=orInt [cx a.k b.k,cx a.n b.n,nc a.s b.s] true (by simp)
 have he:orI [cx a.k b.k,cx a.n b.n,nc a.s b.s]=eX a b:=by
  unfold eX;simp only[orI];split
  ·split
   ·split
    ·rename_i h;exact h.symm
    ·rfl
   ·rfl
  ·rfl
 rw[he]at hc4;simp only[L1,tF,tt,aE]at hc4;refine sPx Tryz.func270 rfl rfl ?_;simp -dsimp[Tryz.f270,rO,aX];refine .inr ⟨aC (by kernel_rfl),?_⟩;refine aN _ (aK (hc1) (by simp)) ?_;simp -dsimp[];refine aN _ (aK (hc2) (by simp)) ?_;simp -dsimp[];refine aN _ (aK (hc3) (by simp)) ?_;simp -dsimp[];refine aN _ (aK (hc4) (by simp)) ?_;simp -dsimp[]
def fZ(vs:List Vl)(s:Int):Nat→List Vl
 | 0=>[]
 | i+1=>if ko s i then fZ vs s i++[vs.getD i ⟨0,0,rY⟩] else fZ vs s i
def jR(vs:List Vl)(s:Int):List Vl:=fZ vs s vs.length
theorem pJ(vs:List Vl)(s:Int):∀i,(fZ vs s i).length≤i
 | 0=>by simp[fZ]
 | i+1=>by
  have:=pJ vs s i;simp only[fZ];split
  ·simp;omega
  ·omega
theorem pI(vs:List Vl)(s:Int):∀i,i≤vs.length→∀v∈fZ vs s i,v∈vs
 | 0,_,v,h=>by simp[fZ]at h
 | i+1,hi,v,h=>by
  simp only[fZ]at h;split at h
  ·rcases List.mem_append.1 h with h | h
   ·exact pI vs s i (by omega) v h
   ·simp only[sC]at h;subst h
    have hb:i<vs.length:=by omega
    have:vs.getD i ⟨0,0,rY⟩=vs[i]:=by simp[hb]
    rw[this];exact rQ hb
  ·exact pI vs s i (by omega) v h
theorem values03(r:Rw)(s:Int)(hl:r.vals.length≤31):aL Tryz.prog 255 [aI r,.int .u32 s] fun x=>x=LV false (jR r.vals s):=by
 refine sPx Tryz.func255 rfl rfl ?_;simp -dsimp[Tryz.f255,rO,aI,LV];refine aG (bf 200 3 [5] (by simp) (W_loopM 25 0x1ffffe0 (by simp[mB]<;>rfl) (σ:=Nat) (fun i=>i≤r.vals.length) (fun i=>r.vals.length-i) (fun i=>[(6,.int .i64 i),(5,.buf 1 0 (fZ r.vals s i).length (fZ r.vals s i).length)]) (fun i=>[B.cells [.int .i64 r.id,.lst 3 false (r.vals.map aX)],B.buf 200 3 ((fZ r.vals s i).map aX) false]) 0 (by omega) (by simp[fZ]) (by simp[fZ]) (by simp) ?_));intro i hi N Q hN hQ;have hvl:=pJ r.vals s i;by_cases hb:i<r.vals.length
 ·have hst:fZ r.vals s (i+1)=if ko s i then fZ r.vals s i++[r.vals[i]] else fZ r.vals s i:=by simp[fZ,hb]
  have hc:=has02 s i (by omega);cases hh:ko s i
  ·rw[hh]at hc hst;refine wx ?_;simp -dsimp[hb];refine cPx (hc) (by simp) ?_;simp -dsimp[aH i (by omega)];refine hN (i+1) _ _ (by omega) (by omega) ?_ ⟨[],?_⟩ ?_ ?_<;>simp[or_imp,forall_and,L1,aE,hst,aX]
  ·rw[hh]at hc hst;refine wx ?_;simp -dsimp[hb];refine cPx (hc) (by simp) ?_;simp -dsimp[hb,aX,ql (fZ r.vals s i).length (by omega),aH i (by omega)];refine hN (i+1) _ _ (by omega) (by omega) ?_ ⟨[],?_⟩ ?_ ?_<;>simp[or_imp,forall_and,L1,aE,hst,aX]
 ·obtain rfl:i=r.vals.length:=by omega
  refine wx ?_;simp -dsimp[hb];refine hQ _ _ _ ?_;simp -dsimp[];exact dP rfl (by simp[jR]) (by simp)
def kB(a b:Rw)(s:Int):Bool:=fH (jR a.vals s) (jR b.vals s)== 0
theorem agree03(a b:Rw)(s:Int)(hl:a.vals.length≤31)(hl2:b.vals.length≤31)(hs:∀v∈a.vals,v.s.size≤maxLen):aL Tryz.prog 203 [aI a,aI b,.int .u32 s] fun x=>x = .bool (kB a b s):=by
 have hc1:=values03 a s hl;have hc2:=values03 b s hl2;have h1:=pJ a.vals s a.vals.length;have hc3:=same01 (jR a.vals s) (jR b.vals s) false false (by unfold jR;omega) (fun v hv=>hs v (pI _ _ _ (rd _) v hv));simp only[aI,LV]at hc1 hc2 hc3;refine sPx Tryz.func203 rfl rfl ?_;simp -dsimp[Tryz.f203,rO,aI,LV];refine .inr ⟨aC (by kernel_rfl),?_⟩;refine aN _ (aK (hc1) (by simp)) ?_;simp -dsimp[];refine aN _ (aK (hc2) (by simp)) ?_;simp -dsimp[];refine aN _ (aK (hc3) (by simp)) ?_;simp -dsimp[];rfl
theorem cmpI_eq(x y:Int):cx x y=0↔x=y:=by
 unfold cx;split
 ·simp;omega
 ·split<;>simp<;>omega
theorem cmpB_zero:∀(a b:List UInt8),Lib.compareBytes a b=0↔a=b
 | [],[]=>by simp[Lib.compareBytes]
 | [],_::_=>by simp[Lib.compareBytes]
 | _::_,[]=>by simp[Lib.compareBytes]
 | a::xs,b::bs=>by
  rw[Lib.compareBytes,List.cons.injEq];split
  ·rename_i h;constructor
   ·intro h2;cases h2
   ·rintro⟨rfl,_⟩;exact absurd h (UInt8.lt_irrefl _)
  ·split
   ·rename_i h;constructor
    ·intro h2;cases h2
    ·rintro⟨rfl,_⟩;exact absurd h (UInt8.lt_irrefl _)
   ·rename_i h1 h2;rw[cmpB_zero xs bs];constructor
    ·intro h;exact⟨UInt8.le_antisymm (UInt8.not_lt.1 h2) (UInt8.not_lt.1 h1),h⟩
    ·exact fun h=>h.2
theorem cmpS_zero(a b:ByteArray):nc a b=0↔a=b:=by
 unfold nc;rw[cmpB_zero];constructor
 ·intro h;cases a;cases b;simp only[ByteArray.mk.injEq];exact Array.ext' h
 ·rintro rfl;rfl
theorem iO(a b:Vl):eX a b=0↔a=b:=by
 unfold eX;have h1:=cmpI_eq a.k b.k;have h2:=cmpI_eq a.n b.n;have h3:=cmpS_zero a.s b.s
 have he:a=b↔a.k=b.k∧a.n=b.n∧a.s=b.s:=by cases a;cases b;simp
 rw[he];split
 ·rename_i g1;split
  ·rename_i g2;rw[h3];exact⟨fun h=>⟨h1.1 g1,h2.1 g2,h⟩,fun h=>h.2.2⟩
  ·rename_i g2;exact⟨fun h=>absurd h g2,fun h=>absurd (h2.2 h.2.1) g2⟩
 ·rename_i g1;exact⟨fun h=>absurd h g1,fun h=>absurd (h1.2 h.1) g1⟩
def vAt(vs:List Vl)(a:Nat):Vl:=vs.getD a ⟨0,0,rY⟩
theorem vAt_in{vs:List Vl}{i:Nat}(h:i<vs.length):vAt vs i=vs[i]:=by simp[vAt,h]
theorem vTo2_eq{us vs:List Vl}{s:Int} : ∀{i:Nat},fZ us s i=fZ vs s i↔∀k,k<i→ko s k=true→vAt us k=vAt vs k
 | 0=>by simp[fZ]
 | i+1=>by
  have ih:=vTo2_eq (us:=us) (vs:=vs) (s:=s) (i:=i);simp only[fZ]
  cases hb:ko s i with
  | true =>
   simp only[if_true];constructor
   ·intro h;obtain⟨h1,h2⟩:=List.append_inj' h rfl;intro k hk hs
    rcases sy k i with e | e
    ·exact ih.1 h1 k e hs
    ·have:k=i:=by omega
     subst this
     exact List.cons.inj h2 |>.1
   ·intro h;rw[ih.2 (fun k hk hs=>h k (by omega) hs)];have:=h i (by omega) hb;unfold vAt at this;rw[this]
  | false =>
   simp only[rn,if_false];rw[ih];constructor
   ·intro h k hk hs
    rcases sy k i with e | e
    ·exact h k e hs
    ·have:k=i:=by omega
     subst this;rw[hb]at hs;cases hs
   ·intro h k hk hs;exact h k (by omega) hs
theorem qg:∀{us vs:List Vl},fH us vs=0↔us=vs
 | [],[]=>by simp[fH]
 | [],_::_=>by simp[fH]
 | _::_,[]=>by simp[fH]
 | u::us,v::vs=>by
  rw[fH,List.cons.injEq];have h1:=iO u v;have h2:=qg (us:=us) (vs:=vs);split
  ·rename_i h;rw[h2];exact⟨fun h3=>⟨h1.1 h,h3⟩,fun h3=>h3.2⟩
  ·rename_i h;exact⟨fun h3=>absurd h3 h,fun h3=>absurd (h1.2 h3.1) h⟩
theorem agreeR_iff{a b:Rw}{s:Int}(h:a.vals.length=b.vals.length):kB a b s=true↔∀k,k<a.vals.length→ko s k=true→vAt a.vals k=vAt b.vals k:=by
 unfold kB jR;rw[beq_iff_eq,qg,←h];exact vTo2_eq
theorem u32w(a:Nat)(h:a<4294967296):IntKind.u32.wrap (a:Int)=a:=by rw[IntKind.wrap_u32];omega
theorem mod32(a:Nat)(h:a<4294967296):((a:Int) % 2^IntKind.u32.bits).toNat=a:=by
 have:(2:Int)^IntKind.u32.bits=4294967296:=rfl;rw[this];omega
theorem modN(a:Nat)(h:a<4294967296):a % 2^IntKind.u32.bits=a:=ur h
theorem or32(a b:Nat)(ha:a<4294967296)(hb:b<4294967296):IntKind.u32.wrap ((a % 2^IntKind.u32.bits ||| b % 2^IntKind.u32.bits:Nat):Int)=((a ||| b:Nat):Int):=by
 rw[modN a ha,modN b hb];exact u32w _ (uU (n:=32) ha hb)
theorem and32(a b:Nat)(ha:a<4294967296)(hb:b<4294967296):IntKind.u32.wrap ((a % 2^IntKind.u32.bits &&& b % 2^IntKind.u32.bits:Nat):Int)=((a &&& b:Nat):Int):=by
 rw[modN a ha,modN b hb];exact u32w _ (tV vB ha)
theorem shl32(i:Nat)(h:i<32):IntKind.u32.wrap (2^min i IntKind.u32.bits:Int)=((2^i:Nat):Int):=by
 have h1:min i IntKind.u32.bits=i:=vO (by show i≤32;omega);have h2:2^i<4294967296:=uE (by omega) h;rw[h1,←u32w _ h2];congr 1
def dj:Nat→Nat
 | 0=>0
 | i+1=>dj i ||| 2^i
theorem jk:∀n,n≤32→dj n<4294967296
 | 0,_=>by simp[dj]
 | i+1,h=>uU (n:=32) (jk i (by omega)) (uE (by omega) (by omega))
theorem nT:∀n k,(dj n).testBit k=decide (k<n)
 | 0,k=>by simp[dj]
 | i+1,k=>by
  rw[dj,Nat.testBit_or,nT i k,uz];rw[sb];simp only[sV,decide_eq_true_eq];omega
theorem full02(n:Nat)(hn:n≤32):aL Tryz.prog 110 [.int .i64 n] fun r=>r = .int .u32 (dj n):=by
 refine sPx Tryz.func110 rfl rfl ?_;simp -dsimp[Tryz.f110,rO];refine aG (W_loopM 18 0x3fff8 (by simp[mB]<;>rfl) (σ:=Nat) (fun i=>i≤n) (fun i=>n-i) (fun i=>[(4,.int .i64 i),(3,.int .u32 (dj i))]) (fun _=>[]) 0 (by omega) (by simp[dj]) rfl (by simp) ?_);intro i hi N Q hN hQ;by_cases hb:i<n
 ·have h1:=shl32 i (by omega);have h2:=jk i (by omega);have h3:2^i<4294967296:=uE (by omega) (show i<32 by omega)
  have hf:dj (i+1)=dj i ||| 2^i:=rfl
  obtain⟨p,hp⟩:∃p,p=2^i:=⟨_,rfl⟩;rw[←hp]at h1 h3 hf;have h4:=or32 (dj i) p h2 h3;rw[←hf]at h4;refine wx ?_;simp -dsimp[hb,show(i:Int)<32 by omega,aH i (by omega),h1,h4];refine hN (i+1) _ _ (by omega) (by omega) ?_ ⟨[],?_⟩ ?_ ?_<;>simp[or_imp,forall_and,L1,aE]
 ·obtain rfl:i=n:=by omega
  refine wx ?_;simp -dsimp[hb];refine hQ _ _ _ ?_;simp -dsimp[]
theorem sub02(a b:Nat)(ha:a<4294967296)(hb:b<4294967296):aL Tryz.prog 202 [.int .u32 a,.int .u32 b] fun r=>r = .bool (decide (a &&& b=a)):=by
 refine sPx Tryz.func202 rfl rfl ?_;simp -dsimp[Tryz.f202,rO,and32 a b ha hb];rw[sb,beq_iff_eq,decide_eq_true_iff];omega
theorem hasB_bit(s i:Nat)(hs:s<4294967296)(hi:i<32):ko s i=s.testBit i:=by
 have h1:min i IntKind.u32.bits=i:=vO (by show i≤32;omega)
 have h2:((s:Int).fdiv (2^i) % 2^IntKind.u32.bits).toNat=s / 2^i:=by
  have h3:(s:Int).fdiv (2^i)=((s / 2^i:Nat):Int):=by
   rw[Int.fdiv_eq_ediv_of_nonneg _ (by have:(0:Int)<2^i:=Int.pow_pos (by omega);omega)];simp
  rw[h3];exact mod32 _ (tV (Nat.div_le_self _ _) hs)
 have h4:(1 % 2^IntKind.u32.bits:Nat)=1:=rfl;unfold ko;rw[h1,h2,h4,Nat.and_one_is_mod,u32w _ (by omega),Nat.testBit_eq_decide_div_mod_eq];rw[sb,beq_iff_eq,decide_eq_true_iff];omega
structure Fd where
 l:Nat
 r:Nat
def encD(d:Fd):V:=.agg [.int .u8 (d.l:Int),.int .u8 (d.r:Int)]
def gH(d:Fd):V:=.agg [.int .u32 (d.l:Int),.int .u32 (d.r:Int)]
@[simp] theorem encD_pure (d:Fd):AM.Pure (encD d):=by simp[encD]
@[simp] theorem encF_pure (d:Fd):AM.Pure (gH d):=by simp[gH]
@[simp] theorem encF_oneV (d:Fd):dV (gH d)=true:=rfl
def LF(f:Bool)(ds:List Fd):V:=.lst 2 f (ds.map gH)
@[simp] theorem LF_pure (f:Bool) (ds:List Fd):AM.Pure (LF f ds):=by simp[LF]
def fdOf(n:Nat)(d:Fd):Fd:=⟨d.l &&& dj n,d.r &&& dj n⟩
def mY(n:Nat)(ds:List Fd)(i:Nat):List Fd:=(ds.take i).map (fdOf n)
theorem fdsTo_len(n:Nat)(ds:List Fd)(i:Nat)(h:i≤ds.length):(mY n ds i).length=i:=by simp[mY];omega
theorem fdsTo_succ(n:Nat)(ds:List Fd)(i:Nat)(h:i<ds.length):mY n ds (i+1)=mY n ds i++[fdOf n ds[i]]:=by
 unfold mY;rw[rV h,sX];rfl
theorem cap8b(n:Nat)(h:n≤1000000000):n≤9223372036854775806∧(n+1)*8≤140737488355328:=by omega
theorem list09(n:Nat)(ds:List Fd)(f:Bool)(hn:n≤32)(hl:ds.length≤1000000)(hd:∀d∈ds,d.l<256∧d.r<256):aL Tryz.prog 65 [.int .i64 n,.lst 2 f (ds.map encD)] fun r=>r=LF false (ds.map (fdOf n)):=by
 have hF:=jk n hn;have hc:=full02 n hn;refine sPx Tryz.func65 rfl rfl ?_;simp -dsimp[Tryz.f65,rO];refine cPx (hc) (by simp) ?_;simp -dsimp[];refine aG (bf 48 2 [6] (by simp) (W_loopM 36 0xffffffcc0 (by simp[mB]<;>rfl) (σ:=Nat) (fun i=>i≤ds.length) (fun i=>ds.length-i) (fun i=>[(7,.int .i64 i),(6,.buf 0 0 i i)]) (fun i=>[B.buf 48 2 ((mY n ds i).map gH) false]) 0 (by omega) (by simp) (by simp[mY]) (by simp) ?_));intro i hi N Q hN hQ;have hli:=fdsTo_len n ds i hi;by_cases hb:i<ds.length
 ·obtain⟨h1,h2⟩:=hd ds[i] (rQ hb);have hst:=fdsTo_succ n ds i hb;have e1:=and32 ds[i].l (dj n) (by omega) hF;have e2:=and32 ds[i].r (dj n) (by omega) hF;have w1:=u32w ds[i].l (by omega);have w2:=u32w ds[i].r (by omega);refine wx ?_;simp -dsimp[hb];refine aG (aW tok mixed [19] [] [] (by kernel_rfl) fun C K hC hK=>?_);simp -implicitDefEqProofs [hb,encD,w1,w2,e1,e2,cap8b i (by omega),hli];refine hK _ _ ?_;simp -dsimp[aH i (by omega)];refine hN (i+1) _ _ (by omega) (by omega) ?_ ⟨[],?_⟩ ?_ ?_<;>simp[or_imp,forall_and,L1,aE,hst,gH,fdOf,encD]
 ·obtain rfl:i=ds.length:=by omega
  refine wx ?_;simp -dsimp[hb];refine hQ _ _ _ ?_;simp -dsimp[];rw[show LF false (ds.map (fdOf n))=LF false (mY n ds ds.length) by unfold mY;rw[sJ]];exact dP rfl (by rw[sK];exact hli.symm) (by simp)
structure Tm where
 v:Int
 a:Int
 x:Vl
structure At where
 l:Tm
 op:Int
 r:Tm
structure Dn where
 vars:Int
 atoms:List At
structure Cl where
 any:Bool
 x:Vl
structure Cfd where
 l:List Int
 r:Int
 p:List Cl
structure Od where
 l:List Int
 r:List Int
def bP(t:Tm):V:=.agg [.int .i64 t.v,.int .i64 t.a,.int .i64 t.x.k,.int .i64 t.x.n,.str t.x.s]
def ar(a:At):V:=.agg [.int .i64 a.l.v,.int .i64 a.l.a,.int .i64 a.l.x.k,.int .i64 a.l.x.n,.str a.l.x.s,.int .i64 a.op,.int .i64 a.r.v,.int .i64 a.r.a,.int .i64 a.r.x.k,.int .i64 a.r.x.n,.str a.r.x.s]
def ao(c:Cl):V:=.agg [.bool c.any,.int .i64 c.x.k,.int .i64 c.x.n,.str c.x.s]
@[simp] theorem encTm_pure (t:Tm):AM.Pure (bP t):=by simp[bP]
@[simp] theorem encAt_pure (a:At):AM.Pure (ar a):=by simp[ar]
@[simp] theorem encCl_pure (c:Cl):AM.Pure (ao c):=by simp[ao]
@[simp] theorem encAt_oneV (a:At):dV (ar a)=true:=rfl
@[simp] theorem encCl_oneV (c:Cl):dV (ao c)=true:=rfl
def LA(f:Bool)(al:List At):V:=.lst 11 f (al.map ar)
def LCl(f:Bool)(cs:List Cl):V:=.lst 4 f (cs.map ao)
@[simp] theorem LA_pure (f:Bool) (al:List At):AM.Pure (LA f al):=by simp[LA]
@[simp] theorem LCl_pure (f:Bool) (cs:List Cl):AM.Pure (LCl f cs):=by simp[LCl]
def aq(f:Bool)(d:Dn):V:=.agg [.int .i64 d.vars,LA f d.atoms]
def ah(f g:Bool)(c:Cfd):V:=.agg [L1 f c.l,.int .i64 c.r,LCl g c.p]
def bM(f g:Bool)(d:Od):V:=.agg [L1 f d.l,L1 g d.r]
@[simp] theorem encDn_pure (f:Bool) (d:Dn):AM.Pure (aq f d):=by simp[aq]
@[simp] theorem encCfd_pure (f g:Bool) (c:Cfd):AM.Pure (ah f g c):=by simp[ah]
@[simp] theorem encOd_pure (f g:Bool) (d:Od):AM.Pure (bM f g d):=by simp[bM]
def ey(x y:Vl):Bool:=x.k == y.k&&(x.n == y.n&&x.s == y.s)
theorem ba_beq2(a b:ByteArray):(a == b)=true↔a=b:=by
 cases a;cases b;rename_i x y;rw[ByteArray.mk.injEq,show((ByteArray.mk x == ByteArray.mk y)=(x == y)) from rfl];exact beq_iff_eq
theorem mh(x y:Vl):ey x y=true↔x=y:=by
 unfold ey;obtain⟨a,b,c⟩:=x;obtain⟨a',b',c'⟩:=y;rw[rX,rX,ba_beq2,beq_iff_eq,beq_iff_eq,Vl.mk.injEq]
theorem oM(H:List B)(k n:Int)(t:ByteArray)(k' n':Int)(t':ByteArray):dm T H 200 (.agg [.int .i64 k,.int .i64 n,.str t]) (.agg [.int .i64 k',.int .i64 n',.str t'])=some (ey ⟨k,n,t⟩ ⟨k',n',t'⟩):=by
 have h2:∀x y:Int,eqD T 9999 2 (.int .i64 x) (.int .i64 y)=some (x == y):=fun x y=>by simp[eqD]
 have h1:∀x y:Int,eqD T 9999 3 (.int .i64 x) (.int .i64 y)=some (x == y):=fun x y=>by simp[eqD]
 have h3:∀x y:ByteArray,eqD T 9999 9 (.str x) (.str y)=some (x == y):=fun x y=>by simp[eqD]
 simp only[dm];rw[show(10000:Nat)=9999+1 from rfl,eqD];simp only[T_200];simp only[if_true,eqFs,lP,T_2,T_3,T_9,bX,sj,sk,rn,if_false,h1,h2,h3,ey];cases (k == k')<;>cases (n == n')<;>cases (t == t')<;>simp
def kp(v:Vl):Bool:=ey v ⟨0,0,rY⟩
def tmB(n vars:Int)(t:Tm):Bool:=if t.v=0 then decide (t.a=0)&&bW t.x else decide (1≤t.v)&&(decide (t.v≤vars)&&(decide (0≤t.a)&&(decide (t.a<n)&&kp t.x)))
def atB(n vars:Int)(a:At):Bool:=decide (1≤a.op)&&(decide (a.op≤4)&&(tmB n vars a.l&&tmB n vars a.r))
def dnB(n:Int)(d:Dn):Bool:=decide (1≤d.vars)&&(decide (d.vars≤3)&&(decide (d.atoms.length≤20)&&d.atoms.all (atB n d.vars)))
def tmV(rs:List Rw)(t:Tm):Vl:=if t.v=0 then t.x else((rs.getD (t.v-1).toNat ⟨0,[]⟩).vals).getD t.a.toNat ⟨0,0,rY⟩
def atS(rs:List Rw)(a:At):Bool:=if a.op=1 then decide (eX (tmV rs a.l) (tmV rs a.r)=0) else if a.op=2 then !decide (eX (tmV rs a.l) (tmV rs a.r)=0) else if a.op=3 then decide (eX (tmV rs a.l) (tmV rs a.r)<0) else decide (eX (tmV rs a.l) (tmV rs a.r)≤0)
def my(d:Dn)(rs:List Rw):Bool:=d.atoms.all (atS rs)
def oO(n r:Int):Int→List Int→Bool
 | _,[]=>true
 | b,a::l=>decide (b<a)&&(decide (a<n)&&(!decide (a=r)&&oO n r a l))
def clB(c:Cl):Bool:=if c.any=true then kp c.x else bW c.x
def cfB(n:Int)(c:Cfd):Bool:=decide (0≤c.r)&&(decide (c.r<n)&&(decide (c.p.length=c.l.length+1)&&(oO n c.r (-1) c.l&&c.p.all clB)))
def inB(n:Int)(a:Int):Bool:=decide (0≤a)&&decide (a<n)
def olB(n:Int)(l:List Int):Bool:=decide (l.length≤8)&&l.all (inB n)
def odB(n:Int)(d:Od):Bool:=olB n d.l&&olB n d.r
structure Cn where
 name:ByteArray
 table:ByteArray
 kind:Int
 fd:Fd
 m1:Int
 m2:Int
 i1:ByteArray
 i2:List Int
 i3:ByteArray
 i4:List Int
 cfd:Cfd
 od:Od
 dn:Dn
def af(c:Cn):V:=.agg [.str c.name,.str c.table,.int .i64 c.kind,.int .u32 (c.fd.l:Int),.int .u32 (c.fd.r:Int),.int .u32 c.m1,.int .u32 c.m2,.str c.i1,L1 false c.i2,.str c.i3,L1 false c.i4,L1 false c.cfd.l,.int .i64 c.cfd.r,LCl false c.cfd.p,L1 false c.od.l,L1 false c.od.r,.int .i64 c.dn.vars,LA false c.dn.atoms]
def LCn(f:Bool)(cs:List Cn):V:=.lst 18 f (cs.map af)
@[simp] theorem encCn_pure (c:Cn):AM.Pure (af c):=by simp[af]
@[simp] theorem LCn_pure (f:Bool) (cs:List Cn):AM.Pure (LCn f cs):=by simp[LCn]
@[simp] theorem encCn_oneV (c:Cn):dV (af c)=true:=by simp[af,dV,L1,LCl,LA,V.one]
def eF(n:Nat)(d:Fd):Bool:=decide ((d.l ||| d.r) / 2^n=0)
def ac(t:Tb)(c:Cn):Int :=
 if c.table.toList == t.name.toList&&(decide (1≤c.kind)&&decide (c.kind≤6)) then
  if c.kind=2∨c.kind=3 then 14 else if c.kind=1 then(if eF t.attrs.length c.fd=true then 0 else 1) else
  if c.kind=4 then(if cfB t.attrs.length c.cfd=true then 0 else 1) else if c.kind=5 then(if odB t.attrs.length c.od=true then 0 else 1) else(if dnB t.attrs.length c.dn=true then 0 else 1)
 else 1
def srt(l:List Int):List Int:=l.mergeSort fun a b=>decide (a≤b)
theorem jT(l:List Int):(srt l).Perm l:=List.mergeSort_perm _ _
theorem pN(l:List Int):(srt l).Pairwise (·≤·):=by
 have:=List.pairwise_mergeSort (le:=fun a b:Int=>decide (a≤b)) (fun a b c h g=>by
  simp only[decide_eq_true_eq]at h g ⊢;omega) (fun a b=>by
  rcases Int.le_total a b with h | h
  ·simp[h]
  ·simp[h]) l
 exact this.imp (fun h=>by simpa using h)
theorem srt_eq{l m:List Int}(hp:m.Perm l)(hs:m.Pairwise (·≤·)):m=srt l :=
 (hp.trans (jT l).symm).eq_of_pairwise (le:=fun x y:Int=>x≤y) (fun x y _ _ h1 h2=>by omega) hs (pN l)
theorem iV(l:List Int):(srt l).length=l.length:=(jT l).length_eq
theorem srt_asc{l:List Int}(h:l.Nodup):(srt l).Pairwise (· < ·):=by
 have h2:(srt l).Nodup:=(jT l).nodup_iff.2 h;exact((pN l).and h2).imp (fun⟨a,b⟩=>by omega)
theorem pO{a b:Int}(h:a<b):srt [a,b]=[a,b]∧srt [b,a]=[a,b] :=
 ⟨(srt_eq (List.Perm.refl _) (by simp;omega)).symm,(srt_eq (List.Perm.swap _ _ _) (by simp;omega)).symm⟩
def aa(rs:List Rw):List Int:=rs.map (·.id)
theorem bC(rs:List Rw):(aa rs).length=rs.length:=by simp[aa]
def cT(p:List Rw)(r:Rw):Bool:=p.any fun x=>x.id == r.id
theorem used_iff{p:List Rw}{r:Rw} : cT p r=true↔r.id∈aa p:=by
 unfold cT aa;rw[uO,uZ];exact⟨fun⟨x,h1,h2⟩=>⟨x,h1,by simpa using h2⟩,fun⟨x,h1,h2⟩=>⟨x,h1,by simpa using h2⟩⟩
def kD(R:List Rw):List Rw→List Rw→Prop
 | _,[]=>True
 | p,r::q=>r∈R∧cT p r=false∧kD R (p++[r]) q
theorem nW{R:List Rw}{r:Rw} : ∀{q p:List Rw},kD R p (q++[r])↔kD R p q∧r∈R∧cT (p++q) r=false
 | [],p=>by simp[kD]
 | x::q,p=>by
  rw[sP,kD,kD,nW (q:=q) (p:=p++[x])];rw[sO,tu];exact⟨fun⟨a,b,c,d⟩=>⟨⟨a,b,c⟩,d⟩,fun⟨⟨a,b,c⟩,d⟩=>⟨a,b,c,d⟩⟩
theorem qP{R:List Rw} : ∀{q p:List Rw},kD R p q→∀r∈q,r∈R
 | [],_,_,r,h=>by cases h
 | x::q,p,h,r,hr=>by
  rcases List.mem_cons.1 hr with rfl | hr
  ·exact h.1
  ·exact qP h.2.2 r hr
theorem qO{R:List Rw} : ∀{q p:List Rw},(aa p).Nodup→kD R p q→(aa (p++q)).Nodup
 | [],p,hp,_=>by simpa using hp
 | x::q,p,hp,h=>by
  have hx:x.id∉aa p:=fun hm=>by have:=used_iff.2 hm;rw[h.2.1]at this;cases this
  have h2:(aa (p++[x])).Nodup:=by
   unfold aa at hp hx ⊢;rw[sX,List.nodup_append];refine⟨hp,by simp,?_⟩;intro a ha b hb;simp at hb;subst hb;rintro rfl;exact hx ha
  have:=qO h2 h.2.2
  rwa [sO,tu]at this
theorem nV{α β:Type}{f:List β→α→List β}{Q:α→β→Prop}(h:∀o r x,x∈f o r↔x∈o∨Q r x):∀(R:List α) (out:List β) (x:β),x∈R.foldl f out↔x∈out∨∃r∈R,Q r x
 | [],out,x=>by simp
 | r::R,out,x=>by
  rw[ta,nV h R (f out r) x,h];simp only[rU,exists_eq_or_imp];rw[or_assoc]
def jY(out:List (List Int))(l:List Int):List (List Int):=if out.contains l then out else out++[l]
theorem lu{out:List (List Int)}{l x:List Int} : x∈jY out l↔x∈out∨x=l:=by
 unfold jY;by_cases h:l∈out
 ·rw[if_pos (by simpa using h)];exact⟨.inl,fun h2=>h2.elim id (fun e=>e▸h)⟩
 ·rw[if_neg (by simpa using h)];simp
theorem putN_len(out:List (List Int))(l:List Int):(jY out l).length≤out.length+1:=by
 unfold jY;split<;>simp
def stV(d:Dn)(out:List (List Int))(rs:List Rw):List (List Int):=if my d rs then jY out (srt (aa rs)) else out
theorem stV_len(d:Dn)(out:List (List Int))(rs:List Rw):(stV d out rs).length≤out.length+1:=by
 unfold stV;split
 ·exact putN_len _ _
 ·omega
def gL(d:Dn)(R:List Rw):Nat→List Rw→List (List Int)→List (List Int)
 | 0,p,out=>stV d out p
 | k+1,p,out=>R.foldl (fun o r=>if cT p r then o else gL d R k (p++[r]) o) out
theorem la{d:Dn}{R:List Rw} : ∀(k:Nat) (p:List Rw) (out:List (List Int)) (x:List Int),x∈gL d R k p out↔x∈out∨∃q,q.length=k∧kD R p q∧my d (p++q)=true∧x=srt (aa (p++q))
 | 0,p,out,x=>by
  unfold gL stV;constructor
  ·intro h;split at h
   ·rename_i ha
    rcases lu.1 h with h | h
    ·exact .inl h
    ·exact .inr ⟨[],rfl,trivial,by simpa using ha,by simpa using h⟩
   ·exact .inl h
  ·rintro(h | ⟨q,h1,_,h3,h4⟩)
   ·split
    ·exact lu.2 (.inl h)
    ·exact h
   ·have:=List.length_eq_zero_iff.1 h1;subst this;rw[rj]at h3 h4;rw[if_pos h3];exact lu.2 (.inr h4)
 | k+1,p,out,x=>by
  unfold gL
  rw[nV (Q:=fun r x=>cT p r=false∧∃q,q.length=k∧kD R (p++[r]) q∧my d (p++[r]++q)=true∧x=srt (aa (p++[r]++q))) (fun o r x=>by
   by_cases hu:cT p r=true
   ·rw[if_pos hu,hu];simp
   ·rw[if_neg hu,la k (p++[r]) o x];simp only[sg]at hu
    rw[hu];simp)]
  constructor
  ·rintro(h | ⟨r,hr,hu,q,h1,h2,h3,h4⟩)
   ·exact .inl h
   ·exact .inr ⟨r::q,by simp[h1],⟨hr,hu,h2⟩,by simpa using h3,by simpa using h4⟩
  ·rintro(h | ⟨q,h1,h2,h3,h4⟩)
   ·exact .inl h
   ·cases q with
    | nil=>simp at h1
    | cons r q=>exact .inr ⟨r,h2.1,h2.2.1,q,by simpa using h1,h2.2.2,by simpa using h3,by simpa using h4⟩
theorem jQ{d:Dn}{R:List Rw} : ∀(k:Nat) (p:List Rw) (out:List (List Int)),(gL d R k p out).length≤out.length+R.length^k
 | 0,p,out=>by unfold gL;exact stV_len d out p
 | k+1,p,out=>by
  unfold gL
  have key:∀(S:List Rw) (o:List (List Int)),(S.foldl (fun o r=>if cT p r then o else gL d R k (p++[r]) o) o).length≤o.length+S.length*R.length^k:=fun S=>by
   induction S with
   | nil=>intro o;simp
   | cons s S ih =>
    intro o;rw[ta];refine sF (ih _) ?_;rw[sB,vS];split
    ·omega
    ·have:=jQ (d:=d) (R:=R) k (p++[s]) o;omega
  have:=key R out;rw[vF,uB];exact this
def kr(R:List Rw)(o:List Rw):List (List Rw):=(R.filter fun r=>!cT o r).map fun r=>o++[r]
def asR(R:List Rw):Nat→List (List Rw)
 | 0=>[[]]
 | k+1=>(asR R k).flatMap (kr R)
theorem jF{R:List Rw} : ∀{k:Nat} {rs:List Rw},rs∈asR R k↔rs.length=k∧kD R [] rs
 | 0,rs=>by
  simp only[asR,sC];constructor
  ·rintro rfl;exact⟨rfl,trivial⟩
  ·intro h;exact List.length_eq_zero_iff.1 h.1
 | k+1,rs=>by
  simp only[asR,vH,kr,uZ,tX];constructor
  ·rintro⟨o,ho,r,⟨hr,hu⟩,rfl⟩;obtain⟨h1,h2⟩:=jF.1 ho;exact⟨by simp[h1],nW.2 ⟨h2,hr,by simpa using hu⟩⟩
  ·rintro⟨h1,h2⟩
   have hne:rs≠[]:=by rintro rfl;simp at h1
   rw[←List.dropLast_concat_getLast hne]at h2;obtain⟨h3,h4,h5⟩:=nW.1 h2;exact⟨rs.dropLast,jF.2 ⟨by simp[h1],h3⟩,rs.getLast hne,⟨h4,by simpa using h5⟩,List.dropLast_concat_getLast hne⟩
theorem mv(R:List Rw):∀k,(asR R k).length≤R.length^k
 | 0=>by simp[asR]
 | k+1=>by
  have ih:=mv R k
  have key:∀l:List (List Rw),(l.flatMap (kr R)).length≤l.length*R.length:=fun l=>by
   induction l with
   | nil=>simp
   | cons o l ihl =>
    rw[tp,ri,sB,vS]
    have:(kr R o).length≤R.length:=by unfold kr;rw[sK];exact rz _ _
    omega
  unfold asR;rw[vF];exact sF (key _) (ro _ ih)
def lD(l:List (List Int))(x:List Int):List (List Int):=if l.any (fun y=>!ap y x&&!ap x y) then l else io l x
theorem same_lex{x y:List Int} : (!ap y x&&!ap x y)=true↔y=x:=by
 constructor
 ·intro h;rw[rX,sL,sL]at h
  refine Classical.byContradiction fun hne=>?_
  have:=mM y x hne h.1;rw[h.2]at this;cases this
 ·rintro rfl;rw[gU];rfl
theorem insE_iff{acc:List (List Int)}{e x:List Int} : x∈io acc e↔x=e∨x∈acc:=by
 refine⟨fun h=>?_,insE_in⟩;unfold io bx at h;simp only[sx,rU]at h
 rcases h with h | h | h
 ·exact .inr (sD h)
 ·exact .inl h
 ·exact .inr (sh h)
theorem putR_mem{l:List (List Int)}{y x:List Int} : x∈lD l y↔x∈l∨x=y:=by
 unfold lD;split
 ·rename_i h;obtain⟨z,hz,he⟩:=List.any_eq_true.1 h;have:=same_lex.1 he;subst this;exact⟨.inl,fun h=>h.elim id (fun e=>e▸hz)⟩
 ·rw[insE_iff,or_comm]
theorem putR_len(l:List (List Int))(y:List Int):(lD l y).length≤l.length+1:=by
 unfold lD;split
 ·omega
 ·unfold io bx;simp;omega
def stR(d:Dn)(out:List (List Int))(rs:List Rw):List (List Int):=if my d rs then lD out (srt (aa rs)) else out
def VD(R:List Rw)(d:Dn)(x:List Int):Prop:=∃rs,rs.length=d.vars.toNat∧kD R [] rs∧my d rs=true∧x=srt (aa rs)
theorem vd_prog{R:List Rw}{d:Dn}{x:List Int} : x∈gL d R d.vars.toNat [] []↔VD R d x:=by
 rw[la];simp[VD]
theorem vd_ref{R:List Rw}{d:Dn}{x:List Int} : x∈(asR R d.vars.toNat).foldl (stR d) []↔VD R d x:=by
 rw[nV (Q:=fun rs x=>my d rs=true∧x=srt (aa rs)) (fun o rs x=>by
  unfold stR;by_cases h:my d rs=true
  ·rw[if_pos h,putR_mem,h];simp
  ·rw[if_neg h];simp[h])]
 constructor
 ·rintro(h | ⟨rs,h1,h2,h3⟩)
  ·cases h
  ·obtain⟨h4,h5⟩:=jF.1 h1;exact⟨rs,h4,h5,h2,h3⟩
 ·rintro⟨rs,h1,h2,h3,h4⟩;exact .inr ⟨rs,jF.2 ⟨h1,h2⟩,h3,h4⟩
def EdgL(R:List Rw)(x:List Int):Prop:=x.Pairwise (· < ·)∧x≠[]∧x.length≤3∧∀a∈x,a∈aa R
theorem VD.edge{R:List Rw}{d:Dn}{x:List Int}(h:VD R d x)(h1:1≤d.vars)(h3:d.vars≤3):EdgL R x:=by
 obtain⟨rs,hl,he,_,rfl⟩:=h
 have hn:(aa rs).Nodup:=by simpa using qO (p:=[]) (by simp[aa]) he
 refine⟨srt_asc hn,fun e=>?_,by rw[iV,bC];omega,fun a ha=>?_⟩
 ·have:=iV (aa rs);rw[e,bC]at this;simp at this;omega
 ·have ha2:=(jT _).mem_iff.1 ha;unfold aa at ha2 ⊢;obtain⟨r,hr,rfl⟩:=List.mem_map.1 ha2;exact List.mem_map.2 ⟨r,qP he r hr,rfl⟩
def prL(P:Rw→Rw→Bool):List Rw→List (List Int)
 | []=>[]
 | r::rs=>((rs.filter (P r)).map fun s=>[r.id,s.id])++prL P rs
theorem lz{P:Rw→Rw→Bool}{x:List Int} : ∀{R:List Rw},(R.Pairwise fun r s=>r.id<s.id)→(x∈prL P R↔∃r∈R,∃s∈R,r.id<s.id∧P r s=true∧x=[r.id,s.id])
 | [],_=>by simp[prL]
 | a::R,h=>by
  rw[uA]at h;rw[prL,sx,lz h.2];constructor
  ·rintro(h1 | ⟨r,hr,s,hs,h1⟩)
   ·obtain⟨s,hs,rfl⟩:=List.mem_map.1 h1;obtain⟨hs1,hs2⟩:=List.mem_filter.1 hs;exact⟨a,sE ..,s,sG _ hs1,h.1 s hs1,hs2,rfl⟩
   ·exact⟨r,sG _ hr,s,sG _ hs,h1⟩
  ·rintro⟨r,hr,s,hs,h1,h2,h3⟩
   rcases List.mem_cons.1 hr with e | hr2
   ·rcases List.mem_cons.1 hs with e2 | hs2
    ·rw[e,e2]at h1;omega
    ·rw[e]at h2 h3;exact .inl (List.mem_map.2 ⟨s,List.mem_filter.2 ⟨hs2,h2⟩,h3.symm⟩)
   ·rcases List.mem_cons.1 hs with e2 | hs2
    ·have:=h.1 r hr2;rw[e2]at h1;omega
    ·exact .inr ⟨r,hr2,s,hs2,h1,h2,h3⟩
theorem lF{P:Rw→Rw→Bool}{p:Rw→Bool} : ∀R:List Rw,prL P (R.filter p)=prL (fun r s=>p r&&(p s&&P r s)) R
 | []=>rfl
 | a::R=>by
  rw[prL];by_cases h:p a=true
  ·rw[sq h,prL,lF R,List.filter_filter];congr 3;funext s;rw[h,re];exact Bool.and_comm _ _
  ·rw[sr h,lF R];simp only[sg]at h;simp[h]
theorem pd{P:Rw→Rw→Bool}{x:List Int}{R:List Rw}(hR:R.Pairwise fun r s=>r.id<s.id)(h:x∈prL P R):EdgL R x:=by
 obtain⟨r,hr,s,hs,h1,_,rfl⟩:=(lz hR).1 h;refine⟨by simpa using h1,by simp,by simp,fun a ha=>?_⟩;unfold aa;simp at ha
 rcases ha with rfl | rfl
 ·exact List.mem_map.2 ⟨r,hr,rfl⟩
 ·exact List.mem_map.2 ⟨s,hs,rfl⟩
theorem fM{P:Rw→Rw→Bool} : ∀R:List Rw,(prL P R).length≤R.length*R.length
 | []=>by simp[prL]
 | a::R=>by
  rw[prL,ri,sK,sB];have h1:=rz (P a) R;have h2:=fM (P:=P) R
  have h3:(R.length+1)*(R.length+1)=R.length*R.length+R.length+R.length+1:=by rw[sM,Nat.mul_add];omega
  omega
def dR(n s:Nat):List Nat:=(rh n).filter s.testBit
theorem kh{n s k:Nat} : k∈dR n s↔k<n∧s.testBit k=true:=by simp[dR]
theorem fX(n s:Nat):(dR n s).length≤n:=by
 have:=rz s.testBit (rh n);simpa[dR] using this
theorem jC(n s:Nat):dR (n+1) s=dR n s++(if s.testBit n then [n] else []):=by
 unfold dR;rw[si,tW];congr 1;by_cases h:s.testBit n=true
 ·rw[if_pos h,sq h];rfl
 ·rw[if_neg h,sr h];rfl
theorem jD{s:Nat} : ∀{n:Nat},(∀j,j<n→s.testBit j=false)→dR n s=[]
 | 0,_=>rfl
 | n+1,h=>by rw[jC,jD (fun j hj=>h j (by omega)),h n (by omega)];rfl
theorem bits_low{x y t:Nat}(h1:∀j,j<t→x.testBit j=false)(h2:x.testBit t=true)(h3:∀j,j≤t→y.testBit j=false)(h4:∀j,t<j→y.testBit j=x.testBit j):∀n,t<n→dR n x=t::dR n y
 | 0,h=>by omega
 | n+1,h=>by
  rw[jC,jC];by_cases hn:n=t
  ·subst hn;rw[jD h1,jD (fun j hj=>h3 j (by omega)),h2,h3 n (by omega)];rfl
  ·rw[bits_low h1 h2 h3 h4 n (by omega),h4 n (by omega)];rfl
theorem low_bit:∀x:Nat,0<x→∃t m,x=2^(t+1)*m+2^t:=by
 intro x
 induction x using ud with
 | _ x ih =>
  intro h
  rcases Nat.mod_two_eq_zero_or_one x with h2 | h2
  ·obtain⟨t,m,e⟩:=ih (x / 2) (by omega) (by omega);refine⟨t+1,m,?_⟩
   have e1:x=2*(x / 2):=by omega
   rw[e1,e,Nat.mul_add,←Nat.mul_assoc,←Nat.pow_succ',←Nat.pow_succ']
  ·exact⟨0,x / 2,by omega⟩
theorem low_test{t m j:Nat} : (2^(t+1)*m+2^t).testBit j=if j<t+1 then decide (t=j) else m.testBit (j-(t+1)):=by
 rw[Nat.testBit_two_pow_mul_add _ (uE (by omega) (by omega))];split
 ·rw[uz]
 ·rfl
theorem low_pred{t m j:Nat} : (2^(t+1)*m+2^t-1).testBit j=if j<t+1 then decide (j<t) else m.testBit (j-(t+1)):=by
 have h0:0<2^t:=Nat.two_pow_pos t
 have h1:2^(t+1)*m+2^t-1=2^(t+1)*m+(2^t-1):=by omega
 rw[h1,Nat.testBit_two_pow_mul_add _ (by rw[vF];omega)];split
 ·rw[Nat.testBit_two_pow_sub_one]
 ·rfl
theorem bits_step{x:Nat}(h:0<x)(h2:x<4294967296):∃t,t<32∧x.testBit t=true∧dR 32 x=t::dR 32 (x &&& (x-1))∧x &&& (4294967296-x)=2^t∧x &&& (x-1)<x:=by
 obtain⟨t,m,e⟩:=low_bit x h
 have ht:t<32:=by
  refine Classical.byContradiction fun hn=>?_
  have:2^32≤2^t:=sd (by omega) (by omega);have h5:0≤2^(t+1)*m:=sY _;omega
 have hx:∀j,x.testBit j=if j<t+1 then decide (t=j) else m.testBit (j-(t+1)):=fun j=>by rw[e];exact low_test
 have hy:∀j,(x-1).testBit j=if j<t+1 then decide (j<t) else m.testBit (j-(t+1)):=fun j=>by rw[e];exact low_pred
 have hz:∀j,(x &&& (x-1)).testBit j=if j<t+1 then false else m.testBit (j-(t+1)):=fun j=>by
  rw[vC,hx,hy];split
  ·by_cases h:t=j
   ·subst h;simp
   ·simp[h]
  ·simp
 refine⟨t,ht,by rw[hx];simp,bits_low (fun j hj=>?_) (by rw[hx];simp) (fun j hj=>?_) (fun j hj=>?_) 32 ht,?_,?_⟩
 ·rw[hx,if_pos (by omega)];simp;omega
 ·rw[hz,if_pos (by omega)]
 ·rw[hz,hx,if_neg (by omega),if_neg (by omega)]
 ·apply Nat.eq_of_testBit_eq;intro j
  have h6:(4294967296-x).testBit j=(decide (j<32)&&!(x-1).testBit j):=by
   have:=Nat.testBit_two_pow_sub_succ (x:=x-1) (n:=32) (by omega) j;rw[show(2:Nat)^32-(x-1+1)=4294967296-x by omega]at this;exact this
  rw[vC,h6,hx,hy,uz];by_cases h7:j<t+1
  ·rw[if_pos h7,if_pos h7];by_cases h8:t=j
   ·subst h8;simp[ht]
   ·simp[h8]
  ·rw[if_neg h7,if_neg h7]
   have:¬t=j:=by omega
   cases m.testBit (j-(t+1))<;>simp[this]
 ·have:=Nat.and_le_right (n:=x) (m:=x-1);omega
def zV:Vl:=⟨0,0,rY⟩
def dZ(op:Int)(a:Nat):At:=⟨⟨1,(a:Int),zV⟩,op,⟨2,(a:Int),zV⟩⟩
def gC(L:List Nat)(b:Nat):Dn:=⟨2,L.map (dZ 1)++[dZ 2 b]⟩
theorem atS_eq(x y:Rw)(a:Nat):atS [x,y] (dZ 1 a)=true↔vAt x.vals a=vAt y.vals a:=by
 rw[←iO];simp[atS,dZ,tmV,vAt]
theorem atS_ne(x y:Rw)(a:Nat):atS [x,y] (dZ 2 a)=true↔vAt x.vals a≠vAt y.vals a:=by
 rw[Ne,←iO];simp[atS,dZ,tmV,vAt]
theorem vd_fd{R:List Rw}{L:List Nat}{b:Nat}{x:List Int} : VD R (gC L b) x↔∃r∈R,∃s∈R,r.id≠s.id∧(∀a∈L,vAt r.vals a=vAt s.vals a)∧vAt r.vals b≠vAt s.vals b∧x=srt [r.id,s.id]:=by
 have hall:∀r s,my (gC L b) [r,s]=true↔(∀a∈L,vAt r.vals a=vAt s.vals a)∧vAt r.vals b≠vAt s.vals b:=fun r s=>by
  unfold my gC;simp only[List.all_append,List.all_map,rX,sH,sZ,uL,Function.comp,atS_eq,atS_ne,and_true]
 constructor
 ·rintro⟨rs,h1,h2,h3,h4⟩
  obtain⟨r,s,rfl⟩:∃r s,rs=[r,s]:=by
   match rs,h1 with
   | [r,s],_=>exact⟨r,s,rfl⟩
  obtain⟨h5,h6⟩:=(hall r s).1 h3;refine⟨r,h2.1,s,h2.2.2.1,?_,h5,h6,by simpa[aa] using h4⟩;have:=h2.2.2.2.1;simpa[cT] using this
 ·rintro⟨r,hr,s,hs,h1,h2,h3,rfl⟩;exact⟨[r,s],rfl,⟨hr,by simp[cT],hs,by simpa[cT] using h1,trivial⟩,(hall r s).2 ⟨h2,h3⟩,by simp[aa]⟩
def fdP(l r:Nat)(a b:Rw):Bool:=kB a b l&&!kB a b r
theorem fd_mem{R:List Rw}{n l r:Nat}{x:List Int}{L M:List Nat}(hR:R.Pairwise fun r s=>r.id<s.id)(hv:∀w∈R,w.vals.length=n)(hn:n≤32)(hl:l<2^n)(hr:r<2^n)(hL:∀k,k∈L↔l.testBit k=true)(hM:∀k,k∈M↔r.testBit k=true∧l.testBit k=false):
  (∃b∈M,VD R (gC L b) x)↔x∈prL (fdP l r) R:=by
 have hp:(2:Nat)^n≤2^32:=sd (by omega) hn
 have lt:∀s k,s<2^n→s.testBit k=true→k<n:=fun s k hs hk=>by
  refine Classical.byContradiction fun hc=>?_
  have:s<2^k:=sI hs (sd (by omega) (by omega));rw[te this]at hk;cases hk
 have ag:∀s:Nat,s<2^n→∀a∈R,∀b∈R,(kB a b s=true↔∀k,s.testBit k=true→vAt a.vals k=vAt b.vals k):=fun s hs a ha b hb=>by
  rw[agreeR_iff (by rw[hv a ha,hv b hb]),hv a ha];constructor
  ·intro h k hk;have hkn:=lt s k hs hk;exact h k hkn (by rw[hasB_bit s k (by omega) (by omega)];exact hk)
  ·intro h k hkn hk;rw[hasB_bit s k (by omega) (by omega)]at hk;exact h k hk
 rw[lz hR];constructor
 ·rintro⟨b,hb,hx⟩;obtain⟨u,hu,w,hw,h1,h2,h3,rfl⟩:=vd_fd.1 hx;obtain⟨hb1,hb2⟩:=(hM b).1 hb
  rcases Int.lt_or_gt_of_ne h1 with h4 | h4
  ·refine⟨u,hu,w,hw,h4,?_,(pO h4).1⟩;unfold fdP;rw[rX,ag l hl u hu w hw,sL,←sg,ag r hr u hu w hw];exact⟨fun k hk=>h2 k ((hL k).2 hk),fun h=>h3 (h b hb1)⟩
  ·refine⟨w,hw,u,hu,h4,?_,(pO h4).2⟩;unfold fdP;rw[rX,ag l hl w hw u hu,sL,←sg,ag r hr w hw u hu];exact⟨fun k hk=>(h2 k ((hL k).2 hk)).symm,fun h=>h3 (h b hb1).symm⟩
 ·rintro⟨u,hu,w,hw,h1,h2,rfl⟩;unfold fdP at h2;rw[rX,ag l hl u hu w hw,sL,←sg,ag r hr u hu w hw]at h2;obtain⟨h3,h4⟩:=h2;obtain⟨b,hb⟩:=Classical.not_forall.1 h4;obtain⟨hb1,hb2⟩:=Classical.not_imp.1 hb
  have hb3:l.testBit b=false:=by
   rw[←sg]
   exact fun h=>hb2 (h3 b h)
  exact⟨b,(hM b).2 ⟨hb1,hb3⟩,vd_fd.2 ⟨u,hu,w,hw,by omega,fun a ha=>h3 a ((hL a).1 ha),hb2,(pO h1).1.symm⟩⟩
def clF(c:Cl)(v:Vl):Bool:=c.any||ey c.x v
def oN(p:List Cl)(i:Nat):Cl:=p.getD i ⟨true,zV⟩
def oA(c:Cfd)(r:Rw):Nat→List Int→Bool
 | _,[]=>true
 | i,a::l=>clF (oN c.p i) (vAt r.vals a.toNat)&&oA c r (i+1) l
def fy(c:Cfd)(r:Rw):Bool:=oA c r 0 c.l
def ia(c:Cfd)(r:Rw):Bool:=clF (oN c.p c.l.length) (vAt r.vals c.r.toNat)
def fm(c:Cfd)(a b:Rw):Bool:=!ey (vAt a.vals c.r.toNat) (vAt b.vals c.r.toNat)&&c.l.all fun k=>ey (vAt a.vals k.toNat) (vAt b.vals k.toNat)
def ng(c:Cfd)(R:List Rw):List (List Int):=((R.filter (fy c)).filter fun r=>!ia c r).map (fun r=>[r.id])++prL (fm c) (R.filter (fy c))
def gv(c:Cfd)(r:Rw):Bool:=fy c r&&!ia c r
def ij(c:Cfd)(a b:Rw):Bool:=fy c a&&(fy c b&&fm c a b)
theorem jy(c:Cfd)(R:List Rw):ng c R=(R.filter (gv c)).map (fun r=>[r.id])++prL (ij c) R:=by
 unfold ng;rw[lF,List.filter_filter];congr 3;funext r;unfold gv;exact Bool.and_comm _ _
theorem eqVB_cmp(x y:Vl):ey x y=decide (eX x y=0):=by
 rw[sb,mh,decide_eq_true_eq,iO]
theorem cfdV_edge{c:Cfd}{R:List Rw}{x:List Int}(hR:R.Pairwise fun r s=>r.id<s.id)(h:x∈ng c R):EdgL R x:=by
 rw[jy,sx]at h
 rcases h with h | h
 ·obtain⟨r,hr,rfl⟩:=List.mem_map.1 h;refine⟨by simp,by simp,by simp,fun a ha=>?_⟩;simp at ha;subst ha;exact List.mem_map.2 ⟨r,(List.mem_filter.1 hr).1,rfl⟩
 ·exact pd hR h
theorem qj(c:Cfd)(R:List Rw):(ng c R).length≤R.length+R.length*R.length:=by
 rw[jy,ri,sK];have h1:=rz (gv c) R;have h2:=fM (P:=ij c) R;omega
def gJ(a b:Rw):List Int→Int
 | []=>0
 | i::l=>if eX (vAt a.vals i.toNat) (vAt b.vals i.toNat)=0 then gJ a b l else eX (vAt a.vals i.toNat) (vAt b.vals i.toNat)
theorem cmpI_rng(x y:Int): -1≤cx x y∧cx x y≤1:=by
 unfold cx;split
 ·omega
 ·split<;>omega
theorem cmpB_rng:∀(a b:List UInt8),-1≤Lib.compareBytes a b∧Lib.compareBytes a b≤1
 | [],[]=>by simp[Lib.compareBytes]
 | [],_::_=>by simp[Lib.compareBytes]
 | _::_,[]=>by simp[Lib.compareBytes]
 | a::xs,b::bs=>by
  rw[Lib.compareBytes];split
  ·omega
  ·split
   ·omega
   ·exact cmpB_rng xs bs
theorem cmpV_rng(x y:Vl): -1≤eX x y∧eX x y≤1:=by
 unfold eX;split
 ·split
  ·exact cmpB_rng _ _
  ·exact cmpI_rng _ _
 ·exact cmpI_rng _ _
theorem jr(a b:Rw):∀l,-1≤gJ a b l∧gJ a b l≤1
 | []=>by simp[gJ]
 | i::l=>by
  rw[gJ];split
  ·exact jr a b l
  ·exact cmpV_rng _ _
def px(d:Od)(a b:Rw):Int:=if gJ a b d.l=0∧¬gJ a b d.r=0 then 1 else if gJ a b d.l*gJ a b d.r<0 then 2 else 0
def odP(d:Od)(a b:Rw):Bool:=!decide (px d a b=0)
structure TbC (t:Tb):Prop where
 ids:t.rows.Pairwise fun r s=>r.id<s.id
 pos:∀r∈t.rows,0<r.id
 len:∀r∈t.rows,r.vals.length=t.attrs.length
 val:∀r∈t.rows,r.vals.all bW=true
 wide:t.attrs.length≤16
theorem pT{n:Nat} : ∀{rs:List Rw} {last:Int},dw n last rs=0→(∀r∈rs,last<r.id)∧(rs.Pairwise fun r s=>r.id<s.id)∧(∀r∈rs,r.vals.length=n)∧∀r∈rs,r.vals.all bW=true
 | [],_,_=>by simp
 | r::rs,last,h=>by
  rw[dw]at h;split at h
  ·cases h
  ·rename_i h1;split at h
   ·cases h
   ·rename_i h2;split at h
    ·rename_i h3;obtain⟨a,b,c,d⟩:=pT h;refine⟨fun x hx=>?_,List.pairwise_cons.2 ⟨a,b⟩,fun x hx=>?_,fun x hx=>?_⟩
     ·rcases List.mem_cons.1 hx with rfl | hx
      ·omega
      ·have:=a x hx;omega
     ·rcases List.mem_cons.1 hx with rfl | hx
      ·simpa using h2
      ·exact c x hx
     ·rcases List.mem_cons.1 hx with rfl | hx
      ·exact h3
      ·exact d x hx
    ·cases h
theorem tbC{t:Tb}(h:aZ t=0):TbC t:=by
 unfold aZ at h;split at h
 ·split at h
  ·cases h
  ·rename_i h2;split at h
   ·obtain⟨a,b,c,d⟩:=pT h;exact⟨b,fun r hr=>a r hr,c,d,by omega⟩
   ·cases h
 ·cases h
def diffN(r l:Nat):Nat:=r &&& (4294967295-l)
def jN(l:Nat):List Nat:=dR 32 l
def lL(l r:Nat):List Nat:=(dR 32 r).filter fun b=>!l.testBit b
def fdV(R:List Rw)(l r:Nat):List (List Int):=(lL l r).flatMap fun b=>cD (gL (gC (jN l) b) R 2 [] [])
def cnV(t:Tb)(c:Cn):List (List Int):=
 if c.kind=1 then fdV t.rows c.fd.l c.fd.r else if c.kind=4 then ng c.cfd t.rows else if c.kind=5 then prL (odP c.od) t.rows else cD (gL c.dn t.rows c.dn.vars.toNat [] [])
def cnR(t:Tb)(c:Cn):List (List Int):=
 if c.kind=1 then prL (fdP c.fd.l c.fd.r) t.rows else if c.kind=4 then ng c.cfd t.rows else if c.kind=5 then prL (odP c.od) t.rows else(asR t.rows c.dn.vars.toNat).foldl (stR c.dn) []
theorem pow16{n:Nat}(h:n≤16):(2:Nat)^n≤65536:=by
 have h1:(2:Nat)^n≤2^16:=sd (by omega) h;omega
theorem fd_lt{n:Nat}{d:Fd}(h:eF n d=true):d.l<2^n∧d.r<2^n:=by
 unfold eF at h
 have h1:(d.l ||| d.r) / 2^n=0:=by simpa using h
 have h2:(d.l ||| d.r)<2^n:=by
  rcases Nat.div_eq_zero_iff.1 h1 with h | h
  ·have:=Nat.two_pow_pos n;omega
  ·exact h
 exact⟨tV Nat.left_le_or h2,tV Nat.right_le_or h2⟩
theorem fdV_mem{t:Tb}(g:TbC t){d:Fd}(h:eF t.attrs.length d=true){x:List Int} : x∈fdV t.rows d.l d.r↔x∈prL (fdP d.l d.r) t.rows:=by
 obtain⟨h1,h2⟩:=fd_lt h;have hp:=pow16 g.wide
 have lt:∀s k,s<2^t.attrs.length→s.testBit k=true→k<32:=fun s k hs hk=>by
  refine Classical.byContradiction fun hc=>?_
  have h16:(2:Nat)^16≤2^k:=sd (by omega) (by omega)
  have:s<2^k:=by omega
  rw[te this]at hk;cases hk
 rw[←fd_mem (n:=t.attrs.length) (L:=jN d.l) (M:=lL d.l d.r) g.ids g.len (by have:=g.wide;omega) h1 h2 (fun k=>?_) (fun k=>?_)]
 ·unfold fdV;rw[vH];constructor
  ·rintro⟨b,hb,hx⟩;exact⟨b,hb,vd_prog.1 ((eC _).mem_iff.1 hx)⟩
  ·rintro⟨b,hb,hx⟩;exact⟨b,hb,(eC _).mem_iff.2 (vd_prog.2 hx)⟩
 ·unfold jN;rw[kh];exact⟨fun h=>h.2,fun h=>⟨lt _ _ h1 h,h⟩⟩
 ·unfold lL;rw[tX,kh];constructor
  ·rintro⟨⟨_,h3⟩,h4⟩;exact⟨h3,by simpa using h4⟩
  ·rintro⟨h3,h4⟩;exact⟨⟨lt _ _ h2 h3,h3⟩,by simpa using h4⟩
theorem cn_ok{t:Tb}{c:Cn}(h:ac t c=0):(c.kind=1∧eF t.attrs.length c.fd=true)∨(c.kind=4∧cfB t.attrs.length c.cfd=true)∨(c.kind=5∧odB t.attrs.length c.od=true)∨(c.kind=6∧dnB t.attrs.length c.dn=true):=by
 unfold ac at h;split at h
 ·rename_i h0;rw[rX,rX,decide_eq_true_eq,decide_eq_true_eq]at h0;split at h
  ·cases h
  ·split at h
   ·rename_i h1;split at h
    ·rename_i h2;exact .inl ⟨h1,h2⟩
    ·cases h
   ·split at h
    ·rename_i h1;split at h
     ·rename_i h2;exact .inr (.inl ⟨h1,h2⟩)
     ·cases h
    ·split at h
     ·rename_i h1;split at h
      ·rename_i h2;exact .inr (.inr (.inl ⟨h1,h2⟩))
      ·cases h
     ·split at h
      ·rename_i h2;exact .inr (.inr (.inr ⟨by omega,h2⟩))
      ·cases h
 ·cases h
theorem mi{n:Int}{d:Dn}(h:dnB n d=true):1≤d.vars∧d.vars≤3:=by
 unfold dnB at h;rw[rX,rX,decide_eq_true_eq,decide_eq_true_eq]at h;exact⟨h.1,h.2.1⟩
theorem cn_mem{t:Tb}(g:TbC t){c:Cn}(h:ac t c=0){x:List Int} : x∈cnV t c↔x∈cnR t c:=by
 unfold cnV cnR
 rcases cn_ok h with⟨h1,h2⟩ | ⟨h1,h2⟩ | ⟨h1,h2⟩ | ⟨h1,h2⟩
 ·rw[if_pos h1,if_pos h1];exact fdV_mem g h2
 ·rw[if_neg (by omega),if_pos h1,if_neg (by omega),if_pos h1]
 ·rw[if_neg (by omega),if_neg (by omega),if_pos h1,if_neg (by omega),if_neg (by omega),if_pos h1]
 ·rw[if_neg (by omega),if_neg (by omega),if_neg (by omega),if_neg (by omega),if_neg (by omega),if_neg (by omega),vd_ref,←vd_prog];exact(eC _).mem_iff
theorem cn_edge{t:Tb}(g:TbC t){c:Cn}(h:ac t c=0){x:List Int}(hx:x∈cnR t c):EdgL t.rows x:=by
 unfold cnR at hx
 rcases cn_ok h with⟨h1,h2⟩ | ⟨h1,h2⟩ | ⟨h1,h2⟩ | ⟨h1,h2⟩
 ·rw[if_pos h1]at hx;exact pd g.ids hx
 ·rw[if_neg (by omega),if_pos h1]at hx;exact cfdV_edge g.ids hx
 ·rw[if_neg (by omega),if_neg (by omega),if_pos h1]at hx;exact pd g.ids hx
 ·rw[if_neg (by omega),if_neg (by omega),if_neg (by omega)]at hx;obtain⟨h3,h4⟩:=mi h2;exact(vd_ref.1 hx).edge h3 h4
theorem pe{m k:Nat}(h:m≤8)(hk:k≤3):m^k≤512:=by
 have h1:m^k≤8^k:=Nat.pow_le_pow_left h k;have h2:8^k≤8^3:=sd (by omega) hk;omega
theorem sq8{m:Nat}(h:m≤8):m*m≤64:=Nat.mul_le_mul h h
theorem gA{α:Type}{f:α→List (List Int)}{k:Nat} : ∀l:List α,(∀x∈l,(f x).length≤k)→(l.flatMap f).length≤l.length*k
 | [],_=>by simp
 | x::l,h=>by
  rw[tp,ri,sB,vS];have h1:=h x (sE ..);have h2:=gA l (fun y hy=>h y (sG _ hy));omega
theorem cnV_len{t:Tb}(hr:t.rows.length≤8){c:Cn}(h:ac t c=0):(cnV t c).length≤4000:=by
 unfold cnV
 rcases cn_ok h with⟨h1,h2⟩ | ⟨h1,h2⟩ | ⟨h1,h2⟩ | ⟨h1,h2⟩
 ·rw[if_pos h1]
  have h3:=gA (f:=fun b=>cD (gL (gC (jN c.fd.l) b) t.rows 2 [] [])) (k:=64) (lL c.fd.l c.fd.r) (fun b _=>by
   rw[fh];have:=jQ (d:=gC (jN c.fd.l) b) (R:=t.rows) 2 [] [];rw[Nat.pow_two]at this;have h5:=sq8 hr;simp only[td]at this
   omega)
  have h4:(lL c.fd.l c.fd.r).length≤32:=sF (rz _ _) (fX _ _);unfold fdV;omega
 ·rw[if_neg (by omega),if_pos h1];have:=qj c.cfd t.rows;have h5:=sq8 hr;omega
 ·rw[if_neg (by omega),if_neg (by omega),if_pos h1];have:=fM (P:=odP c.od) t.rows;have h5:=sq8 hr;omega
 ·rw[if_neg (by omega),if_neg (by omega),if_neg (by omega),fh];obtain⟨h3,h4⟩:=mi h2;have:=jQ (d:=c.dn) (R:=t.rows) c.dn.vars.toNat [] [];have h5:=pe (k:=c.dn.vars.toNat) hr (by omega);simp only[td]at this;omega
theorem cnR_len{t:Tb}(hr:t.rows.length≤8){c:Cn}(h:ac t c=0):(cnR t c).length≤4000:=by
 unfold cnR;have h5:=sq8 hr
 rcases cn_ok h with⟨h1,h2⟩ | ⟨h1,h2⟩ | ⟨h1,h2⟩ | ⟨h1,h2⟩
 ·rw[if_pos h1];have:=fM (P:=fdP c.fd.l c.fd.r) t.rows;omega
 ·rw[if_neg (by omega),if_pos h1];have:=qj c.cfd t.rows;omega
 ·rw[if_neg (by omega),if_neg (by omega),if_pos h1];have:=fM (P:=odP c.od) t.rows;omega
 ·rw[if_neg (by omega),if_neg (by omega),if_neg (by omega)];obtain⟨h3,h4⟩:=mi h2;have h6:=mv t.rows c.dn.vars.toNat;have h7:=pe (k:=c.dn.vars.toNat) hr (by omega)
  have key:∀(l:List (List Rw)) (o:List (List Int)),(l.foldl (stR c.dn) o).length≤o.length+l.length:=fun l=>by
   induction l with
   | nil=>intro o;simp
   | cons a l ih =>
    intro o;rw[ta,sB]
    have h8:(stR c.dn o a).length≤o.length+1:=by
     unfold stR;split
     ·exact putR_len _ _
     ·omega
    have:=ih (stR c.dn o a);omega
  have:=key (asR t.rows c.dn.vars.toNat) [];simp only[td]at this;omega
def nr(all:List (List Int)):List (List Int):=dq (cD (all.filter fun l=>!smK all l))
theorem progE_lex{all:List (List Int)}(hA:∀d∈all,d.Pairwise (· < ·)∧d≠[]∧d.length≤3):LexSet (nr all) (MinM all):=by
 have hs:(cD (all.filter fun l=>!smK all l)).Pairwise fun x y=>ap y x=false:=(sortLi_sorted _).imp (fun {x y} h=>by
  rw[←sg,←iz];exact h)
 have h:=compL_ok hs;refine⟨h.ord,fun e=>?_⟩;show e∈dq _↔_;rw[h.mem,(eC _).mem_iff,tX,←sm_min hA,sL]
theorem min_congr{a b:List (List Int)}(h:∀x,x∈a↔x∈b)(e:List Int):MinM a e↔MinM b e:=by
 unfold MinM;rw[h e];exact⟨fun⟨h1,h2⟩=>⟨h1,fun d hd=>h2 d ((h d).2 hd)⟩,fun⟨h1,h2⟩=>⟨h1,fun d hd=>h2 d ((h d).1 hd)⟩⟩
def allV(t:Tb)(cs:List Cn):List (List Int):=cs.flatMap (cnV t)
def bQ(t:Tb)(cs:List Cn):List (List Int):=cs.flatMap (cnR t)
theorem all_mem{t:Tb}(g:TbC t){cs:List Cn}(h:∀c∈cs,ac t c=0){x:List Int} : x∈allV t cs↔x∈bQ t cs:=by
 unfold allV bQ;rw[vH,vH];exact⟨fun⟨c,h1,h2⟩=>⟨c,h1,(cn_mem g (h c h1)).1 h2⟩,fun⟨c,h1,h2⟩=>⟨c,h1,(cn_mem g (h c h1)).2 h2⟩⟩
theorem eQ{t:Tb}(g:TbC t){cs:List Cn}(h:∀c∈cs,ac t c=0){x:List Int}(hx:x∈bQ t cs):EdgL t.rows x:=by
 obtain⟨c,h1,h2⟩:=List.mem_flatMap.1 hx;exact cn_edge g (h c h1) h2
theorem qV{t:Tb}(g:TbC t){cs:List Cn}(h:∀c∈cs,ac t c=0):nr (allV t cs)=ak (bQ t cs):=by
 have hm:∀x,x∈allV t cs↔x∈bQ t cs:=fun x=>all_mem g h
 have hE:∀d∈bQ t cs,EdgL t.rows d:=fun d hd=>eQ g h hd
 exact(progE_lex fun d hd=>⟨(hE d ((hm d).1 hd)).1,(hE d ((hm d).1 hd)).2.1,(hE d ((hm d).1 hd)).2.2.1⟩).eq (iM fun e he=>(hE e he).1) (min_congr hm)
def dF(t:Tb):List Cn→Int
 | []=>0
 | c::cs=>if ac t c=0 then dF t cs else ac t c
theorem kf{t:Tb} : ∀{cs:List Cn},dF t cs=0→∀c∈cs,ac t c=0
 | [],_,c,hc=>by cases hc
 | c::cs,h,c',hc=>by
  rw[dF]at h;split at h
  ·rename_i h1
   rcases List.mem_cons.1 hc with rfl | hc
   ·exact h1
   ·exact kf h c' hc
  ·rename_i h1;exact absurd h h1
def aV(t:Tb)(cs:List Cn):Int:=if aZ t=0 then(if 200<t.rows.length then 3 else dF t cs) else aZ t
structure Snt where
 lv:Int
 lc:Int
 op:Int
 rv:Int
 rc:Int
structure Rul where
 k:Int
 fd:Fd
 cl:Int
 cr:Int
 cs:List Int
 xs:List Int
 ys:List Int
 nv:Int
 sn:List Snt
def gn(s:Snt):V:=.agg [.int .u8 s.lv,.int .u8 s.lc,.int .u8 s.op,.int .u8 s.rv,.int .u8 s.rc]
def bd(r:Rul):V:=.agg [.int .u8 r.k,.int .u8 (r.fd.l:Int),.int .u8 (r.fd.r:Int),.int .u8 r.cl,.int .u8 r.cr,LU r.cs,LU r.xs,LU r.ys,.int .u8 r.nv,.lst 5 false (r.sn.map gn)]
@[simp] theorem encSnt_pure (s:Snt):AM.Pure (gn s):=by simp[gn]
@[simp] theorem encRul_pure (s:Rul):AM.Pure (bd s):=by simp[bd,LU,eH]
@[simp] theorem encRul_oneV (s:Rul):dV (bd s)=true:=by simp[bd,dV,LU,V.one]
structure SntOk (s:Snt):Prop where
 lv:0≤s.lv∧s.lv<256
 lc:0≤s.lc∧s.lc<256
 op:0≤s.op∧s.op<256
 rv:0≤s.rv∧s.rv<256
 rc:0≤s.rc∧s.rc<256
structure RulOk (r:Rul):Prop where
 k:0≤r.k∧r.k<256
 fd:r.fd.l<256∧r.fd.r<256
 cl:0≤r.cl∧r.cl<256
 cr:0≤r.cr∧r.cr<256
 cs:r.cs.length≤9223372036854775807
 csv:∀c∈r.cs,0≤c∧c<256
 xs:r.xs.length≤9223372036854775807
 xsv:∀c∈r.xs,0≤c∧c<256
 ys:r.ys.length≤9223372036854775807
 ysv:∀c∈r.ys,0≤c∧c<256
 nv:0≤r.nv∧r.nv<256
 sn:r.sn.length≤1048576
 snv:∀s∈r.sn,SntOk s
def cfL(s:Int)(b:Nat)(n:Nat):List Int:=((rh n).filter fun a=>ko s a&&!decide (a=b)).map fun a:Nat=>(a:Int)
theorem cfL_succ(s:Int)(b n:Nat):cfL s b (n+1)=if(ko s n&&!decide (n=b))=true then cfL s b n++[(n:Int)] else cfL s b n:=by
 unfold cfL;rw[si,tW,sX];by_cases h:(ko s n&&!decide (n=b))=true
 ·rw[if_pos h,sq (p:=fun a=>ko s a&&!decide (a=b)) h];rfl
 ·rw[if_neg h,sr (p:=fun a=>ko s a&&!decide (a=b)) h];simp
theorem cfL_mem{s:Int}{b n:Nat}{x:Int} : x∈cfL s b n↔∃a:Nat,x=(a:Int)∧a<n∧ko s a=true∧a≠b:=by
 unfold cfL;rw[uZ];constructor
 ·rintro⟨a,ha,rfl⟩;obtain⟨h1,h2⟩:=List.mem_filter.1 ha;simp only[rX,sL,decide_eq_false_iff_not]at h2;exact⟨a,rfl,List.mem_range.1 h1,h2.1,h2.2⟩
 ·rintro⟨a,rfl,h1,h2,h3⟩;exact⟨a,List.mem_filter.2 ⟨List.mem_range.2 h1,by simp[h2,h3]⟩,rfl⟩
theorem cfL_asc(s:Int)(b n:Nat):(cfL s b n).Pairwise (· < ·):=by
 unfold cfL;rw[uV]
 exact(List.pairwise_lt_range.filter _).imp fun {x y} h=>by omega
theorem pA(s:Int)(b n:Nat):(cfL s b n).length≤n:=by
 unfold cfL;rw[sK];exact sF (rz _ _) (by simp)
def clOf(cs:List Int)(k:Nat):Cl:=if k<cs.length∧¬(cs.getD k 0).tmod 2=0 then⟨false,ofC (((cs.getD k 0).tdiv 2).tmod 3)⟩ else⟨true,zV⟩
def cfP(cs:List Int)(m:Nat):List Cl:=(rh m).map (clOf cs)
theorem cfP_succ(cs:List Int)(m:Nat):cfP cs (m+1)=cfP cs m++[clOf cs m]:=by simp[cfP,si]
theorem cfP_len(cs:List Int)(m:Nat):(cfP cs m).length=m:=by simp[cfP]
def cfR(n:Nat)(b:Int):Nat:=(b.tmod n).toNat
def cfOf(n:Nat)(s b:Int)(cs:List Int):Cfd:=⟨cfL s (cfR n b) n,(cfR n b:Int),cfP cs ((cfL s (cfR n b) n).length+1)⟩
theorem cfR_lt{n:Nat}{b:Int}(hn:0<n)(hb:0≤b):(cfR n b:Int)=b.tmod n∧cfR n b<n:=by
 unfold cfR;have h1:=sW (n:Int) hb;have h2:=sR b (show(0:Int)<n by omega);omega
theorem asc_of{n r:Int} : ∀{l:List Int} {b:Int},(∀a∈l,b<a)→l.Pairwise (· < ·)→(∀a∈l,a<n∧a≠r)→oO n r b l=true
 | [],_,_,_,_=>rfl
 | a::l,b,h1,h2,h3=>by
  rw[uA]at h2;have a1:=h1 a (sE ..);obtain⟨a2,a3⟩:=h3 a (sE ..);rw[oO,asc_of (b:=a) h2.1 h2.2 fun x hx=>h3 x (sG _ hx)];simp[a1,a2,a3]
theorem ofV_val(m:Int):bW (ofV m)=true:=by
 unfold ofV
 repeat' split
 all_goals kernel_rfl
theorem clOf_ok(cs:List Int)(k:Nat):clB (clOf cs k)=true:=by
 unfold clOf;split
 ·exact ofV_val _
 ·kernel_rfl
theorem cfOf_ok{n:Nat}(hn:0<n)(s b:Int)(hb:0≤b)(cs:List Int):cfB n (cfOf n s b cs)=true:=by
 obtain⟨h1,h2⟩:=cfR_lt hn hb;unfold cfB cfOf;simp only[cfP_len]
 have ha:oO n (cfR n b:Int) (-1) (cfL s (cfR n b) n)=true:=asc_of (fun a h=>by obtain⟨k,rfl,_⟩:=cfL_mem.1 h;omega) (cfL_asc _ _ _) fun a h=>by
  obtain⟨k,rfl,h3,_,h4⟩:=cfL_mem.1 h;omega
 have hp:(cfP cs ((cfL s (cfR n b) n).length+1)).all clB=true:=by
  rw[sH];intro c hc;obtain⟨k,_,rfl⟩:=List.mem_map.1 hc;exact clOf_ok _ _
 rw[ha,hp];simp;omega
def mbF(n:Nat)(l:List Int):List Int:=if n=0 then [] else(l.take 5).map fun x=>x.tmod n
theorem mbF_ok{n:Nat}{l:List Int}(hl:∀c∈l,0≤c∧c<256):olB n (mbF n l)=true:=by
 unfold olB mbF;split
 ·rfl
 ·rename_i h0;rw[rX,decide_eq_true_eq,sH];refine⟨by simp;omega,fun a ha=>?_⟩;obtain⟨c,hc,rfl⟩:=List.mem_map.1 ha;have h1:=sW (n:Int) (hl c (sD hc)).1;have h2:=sR c (show(0:Int)<n by omega);simp[inB];omega
def odOf(n:Nat)(xs ys:List Int):Od:=⟨mbF n xs,mbF n ys⟩
def oI(n:Nat)(vars:Int)(v c:Int):Tm:=if v.tmod (vars+1)=0∨n=0 then⟨0,0,ofC c⟩ else⟨v.tmod (vars+1),c.tmod n,zV⟩
def atOf(n:Nat)(vars:Int)(s:Snt):At:=⟨oI n vars s.lv s.lc,1+s.op.tmod 4,oI n vars s.rv s.rc⟩
def dnOf(n:Nat)(nv:Int)(sn:List Snt):Dn:=⟨1+nv.tmod 3,sn.map (atOf n (1+nv.tmod 3))⟩
theorem tmOf_ok{n:Nat}{vars v c:Int}(h1:1≤vars)(hv:0≤v)(hc:0≤c):tmB n vars (oI n vars v c)=true:=by
 unfold oI;split
 ·unfold tmB;rw[if_pos rfl];show(decide ((0:Int)=0)&&bW (ofV _))=true;rw[ofV_val];rfl
 ·rename_i h;have a1:=sW (vars+1) hv;have a2:=sR v (show(0:Int)<vars+1 by omega);have b1:=sW (n:Int) hc;have b2:=sR c (show(0:Int)<n by omega);unfold tmB;rw[if_neg (by show ¬v.tmod (vars+1)=0;omega)];show(decide (1≤v.tmod (vars+1))&&(decide (v.tmod (vars+1)≤vars)&&(decide (0≤c.tmod n)&&(decide (c.tmod n<n)&&kp zV))))=true;rw[decide_eq_true (by omega),decide_eq_true (by omega),decide_eq_true (by omega),decide_eq_true (by omega)]
  kernel_rfl
theorem dnOf_ok{n:Nat}{nv:Int}(hv:0≤nv){sn:List Snt}(h5:sn.length≤5)(hs:∀s∈sn,SntOk s):dnB n (dnOf n nv sn)=true:=by
 have h1:=sW 3 hv;have h2:=sR nv (show(0:Int)<3 by omega);unfold dnB dnOf;simp only[sK,rX,decide_eq_true_eq,sH];refine⟨by omega,by omega,by omega,fun a ha=>?_⟩;obtain⟨s,hm,rfl⟩:=List.mem_map.1 ha;have hk:=hs s hm;have o1:=sW 4 hk.op.1;have o2:=sR s.op (show(0:Int)<4 by omega);unfold atB atOf;simp only[rX,decide_eq_true_eq];exact⟨by omega,by omega,tmOf_ok (by omega) hk.lv.1 hk.lc.1,tmOf_ok (by omega) hk.rv.1 hk.rc.1⟩
def strR:ByteArray:=⟨#[114]⟩
def strC:ByteArray:=⟨#[99]⟩
def cn0:Cn:=⟨strC,strR,0,⟨0,0⟩,0,0,rY,[],rY,[],⟨[],0,[]⟩,⟨[],[]⟩,⟨0,[]⟩⟩
def eW(n:Nat)(r:Rul):Cn :=
 if r.k.tmod 5=1∧0<n then { cn0 with kind:=4,cfd:=cfOf n r.cl r.cr r.cs } else
 if r.k.tmod 5=2 then { cn0 with kind:=5,od:=odOf n r.xs r.ys } else
 if r.k.tmod 5=3 then { cn0 with kind:=6,dn:=dnOf n r.nv r.sn } else
 { cn0 with kind:=1,fd:=fdOf n r.fd }
def ez(r:Rul):Bool:=!decide (r.k.tmod 5=3)||decide (r.sn.length≤5)
theorem fullN_lt2:∀n,dj n<2^n
 | 0=>by simp[dj]
 | i+1=>uU (n:=i+1) (Nat.lt_trans (fullN_lt2 i) (uE (by omega) (by omega))) (uE (by omega) (by omega))
theorem cnOf_ok{t:Tb}(ht:t.name=strR){r:Rul}(h:RulOk r)(hk:ez r=true):ac t (eW t.attrs.length r)=0:=by
 have hname:∀c:Cn,c.table=strR→(c.table.toList == t.name.toList)=true:=fun c hc=>by rw[hc,ht];exact beq_self_eq_true _
 unfold ac eW;by_cases h1:r.k.tmod 5=1∧0<t.attrs.length
 ·rw[if_pos h1];rw[if_pos (by rw[hname _ rfl];rfl),if_neg (by show ¬((4:Int)=2∨(4:Int)=3);omega),if_neg (by show ¬(4:Int)=1;omega),if_pos rfl];exact if_pos (cfOf_ok h1.2 _ _ h.cr.1 _)
 rw[if_neg h1];by_cases h2:r.k.tmod 5=2
 ·rw[if_pos h2];rw[if_pos (by rw[hname _ rfl];rfl),if_neg (by show ¬((5:Int)=2∨(5:Int)=3);omega),if_neg (by show ¬(5:Int)=1;omega),if_neg (by show ¬(5:Int)=4;omega),if_pos rfl];refine if_pos ?_;show(olB _ (mbF _ r.xs)&&olB _ (mbF _ r.ys))=true;rw[mbF_ok h.xsv,mbF_ok h.ysv];rfl
 rw[if_neg h2];by_cases h3:r.k.tmod 5=3
 ·rw[if_pos h3];rw[if_pos (by rw[hname _ rfl];rfl),if_neg (by show ¬((6:Int)=2∨(6:Int)=3);omega),if_neg (by show ¬(6:Int)=1;omega),if_neg (by show ¬(6:Int)=4;omega),if_neg (by show ¬(6:Int)=5;omega)];unfold ez at hk;rw[h3]at hk;exact if_pos (dnOf_ok h.nv.1 (by simpa using hk) h.snv)
 rw[if_neg h3];rw[if_pos (by rw[hname _ rfl];rfl),if_neg (by show ¬((1:Int)=2∨(1:Int)=3);omega),if_pos rfl];refine if_pos ?_;have hf:=fullN_lt2 t.attrs.length;unfold eF;rw[decide_eq_true_eq];refine Nat.div_eq_of_lt (uU ?_ ?_)
 ·exact tV Nat.and_le_right hf
 ·exact tV Nat.and_le_right hf
def eV(x:Rcp):Tb:=wideT x (x.a.tmod 6).toNat
theorem kz{n:Nat} : ∀{rs:List Rw} {last:Int},(∀r∈rs,last<r.id)→(∀r∈rs,r.vals.length=n)→(∀r∈rs,∀v∈r.vals,bW v=true)→rs.Pairwise (fun a b=>a.id<b.id)→dw n last rs=0
 | [],_,_,_,_,_=>rfl
 | r::rs,last,h1,h2,h3,h4=>by
  have a1:=h1 r sE;have a2:=h2 r sE;have a3:r.vals.all bW=true:=List.all_eq_true.2 (h3 r sE);rw[uA]at h4;rw[dw,if_neg (by omega),if_neg (by omega),a3,if_pos rfl];exact kz h4.1 (fun r' hr=>h2 r' (sG _ hr)) (fun r' hr=>h3 r' (sG _ hr)) h4.2
theorem wideT_rows{x:Rcp}{n:Nat}(hg:0≤x.gap):(∀r∈(wideT x n).rows,0<r.id∧r.vals.length=n∧∀v∈r.vals,∃m,v=ofV m)∧(wideT x n).rows.Pairwise fun a b=>a.id<b.id:=by
 have h0:=sW 3 hg;constructor
 ·intro r hr;obtain⟨i,hi,rfl⟩:=List.mem_map.1 hr;refine⟨?_,wVals_len _ _,fun v hv=>?_⟩
  ·show 0<1+(i:Int)*(1+x.gap.tmod 3);have:=Int.mul_nonneg (show(0:Int)≤i by omega) (show 0≤1+x.gap.tmod 3 by omega);omega
  ·obtain⟨j,_,rfl⟩:=List.mem_map.1 hv;exact⟨_,rfl⟩
 ·show((rh x.rows.length).map _).Pairwise _;rw[uV];refine List.Pairwise.imp ?_ List.pairwise_lt_range;intro i j hij;show 1+(i:Int)*(1+x.gap.tmod 3)<1+(j:Int)*(1+x.gap.tmod 3);have:=Int.mul_lt_mul_of_pos_right (show(i:Int)<j by omega) (show 0<1+x.gap.tmod 3 by omega);omega
theorem names_few:∀n,n<6→fq (L8.take n)=true
 | 0,_=>by kernel_rfl
 | 1,_=>by kernel_rfl
 | 2,_=>by kernel_rfl
 | 3,_=>by kernel_rfl
 | 4,_=>by kernel_rfl
 | 5,_=>by kernel_rfl
 | n+6,h=>by omega
theorem ofV_sz(m:Int):(ofV m).s.size≤maxLen:=by
 unfold ofV
 repeat' split
 all_goals decide
theorem tbOf_name(x:Rcp):(eV x).name=strR:=rfl
structure RcpOk (x:Rcp):Prop where
 a:0≤x.a∧x.a<256
 gap:0≤x.gap
 rows:x.rows.length≤6
 len:∀r∈x.rows,r.length≤9223372036854775807
theorem tbOf_n{x:Rcp}(h:0≤x.a):(x.a.tmod 6).toNat<6∧(((x.a.tmod 6).toNat:Nat):Int)=x.a.tmod 6:=by
 have h1:=sW 6 h;have h2:=sR x.a (show(0:Int)<6 by omega);omega
def ixP{α:Type}(p:α→Bool)(es:List α)(i:Nat):Int:=if h:i<es.length then(if p es[i] then(i:Int) else ixP p es (i+1)) else -1
termination_by es.length-i
theorem oo{α:Type}(p:α→Bool)(es:List α)(i:Nat):decide (0≤ixP p es i)=(es.drop i).any p:=by
 fun_induction ixP p es i with
 | case1 i h h0=>rw[rP h,tK,h0];simp
 | case2 i h h0 ih=>rw[rP h,tK,ih];simp[h0]
 | case3 i h=>rw[rR (by omega)];rfl
theorem ix_A(H:List B)(fv:V)(p:At→Bool)(es:List At)(g:Bool)(hes:es.length≤1000000)(hH:∀bl∈H,rbB H.length bl)(hfv:rb H.length fv)
  (hp:∀m∈es,aQ Tryz.prog fv [ar m] H fun r H'=>r = .bool (p m)∧H'=H):av Tryz.prog 237 [LA g es,fv] H fun r H'=>r = .int .i64 (ixP p es 0)∧H'=H:=by
 refine aF tok Tryz.func237 rfl rfl ?_;refine wx ?_;simp -dsimp[Tryz.f237,rO,LA];refine aG (W_loopM 19 0x7ff30 (by simp[mB]<;>rfl) (σ:=Nat) (fun i=>ixP p es i=ixP p es 0) (fun i=>es.length-i) (fun i=>[(8,.int .i64 i)]) (fun _=>H) 0 rfl (by simp) rfl (by simp) ?_);intro i hx N Q hN hQ;by_cases hb:i<es.length
 ·rw[ixP,dif_pos hb]at hx;have hc:=hp es[i] (rQ hb);cases hq:p es[i]
  ·rw[hq]at hc hx;refine wx ?_;simp -dsimp[hb];refine hc.mono ?_;rintro r H' ⟨rfl,rfl⟩;simp -dsimp[aH i (by omega)];refine hN (i+1) _ _ (by simpa using hx) (by omega) (by simp) ⟨[],by simp⟩ (by simp;exact hfv) hH
  ·rw[hq]at hc hx;refine wx ?_;simp -dsimp[hb];refine hc.mono ?_;rintro r H' ⟨rfl,rfl⟩;simp -dsimp[];refine hQ _ _ _ ?_;simp -dsimp[];simpa using hx
 ·rw[ixP,dif_neg hb]at hx;refine wx ?_;simp -dsimp[hb];refine hQ _ _ _ ?_;simp -dsimp[];simpa using hx
theorem cont_A(H:List B)(fv:V)(p:At→Bool)(es:List At)(g:Bool)(hes:es.length≤1000000)(hH:∀bl∈H,rbB H.length bl)(hfv:rb H.length fv)
  (hp:∀m∈es,aQ Tryz.prog fv [ar m] H fun r H'=>r = .bool (p m)∧H'=H):av Tryz.prog 180 [LA g es,fv] H fun r H'=>r = .bool (es.any p)∧H'=H:=by
 have h0:=oo p es 0;rw[rk]at h0;have hc:=ix_A H fv p es g hes hH hfv hp;refine aF tok Tryz.func180 rfl rfl ?_;refine wx ?_;simp -dsimp[Tryz.f180,rO];refine aQ.mono (K:=fun r H'=>r = .int .i64 (ixP p es 0)∧H'=H) hc ?_;rintro r H' ⟨rfl,rfl⟩;simp -dsimp[];rw[←h0]
theorem ix_L(H:List B)(fv:V)(p:Cl→Bool)(es:List Cl)(g:Bool)(hes:es.length≤1000000)(hH:∀bl∈H,rbB H.length bl)(hfv:rb H.length fv)
  (hp:∀m∈es,aQ Tryz.prog fv [ao m] H fun r H'=>r = .bool (p m)∧H'=H):av Tryz.prog 238 [LCl g es,fv] H fun r H'=>r = .int .i64 (ixP p es 0)∧H'=H:=by
 refine aF tok Tryz.func238 rfl rfl ?_;refine wx ?_;simp -dsimp[Tryz.f238,rO,LCl];refine aG (W_loopM 19 0x7ff30 (by simp[mB]<;>rfl) (σ:=Nat) (fun i=>ixP p es i=ixP p es 0) (fun i=>es.length-i) (fun i=>[(8,.int .i64 i)]) (fun _=>H) 0 rfl (by simp) rfl (by simp) ?_);intro i hx N Q hN hQ;by_cases hb:i<es.length
 ·rw[ixP,dif_pos hb]at hx;have hc:=hp es[i] (rQ hb);cases hq:p es[i]
  ·rw[hq]at hc hx;refine wx ?_;simp -dsimp[hb];refine hc.mono ?_;rintro r H' ⟨rfl,rfl⟩;simp -dsimp[aH i (by omega)];refine hN (i+1) _ _ (by simpa using hx) (by omega) (by simp) ⟨[],by simp⟩ (by simp;exact hfv) hH
  ·rw[hq]at hc hx;refine wx ?_;simp -dsimp[hb];refine hc.mono ?_;rintro r H' ⟨rfl,rfl⟩;simp -dsimp[];refine hQ _ _ _ ?_;simp -dsimp[];simpa using hx
 ·rw[ixP,dif_neg hb]at hx;refine wx ?_;simp -dsimp[hb];refine hQ _ _ _ ?_;simp -dsimp[];simpa using hx
theorem cont_L(H:List B)(fv:V)(p:Cl→Bool)(es:List Cl)(g:Bool)(hes:es.length≤1000000)(hH:∀bl∈H,rbB H.length bl)(hfv:rb H.length fv)
  (hp:∀m∈es,aQ Tryz.prog fv [ao m] H fun r H'=>r = .bool (p m)∧H'=H):av Tryz.prog 183 [LCl g es,fv] H fun r H'=>r = .bool (es.any p)∧H'=H:=by
 have h0:=oo p es 0;rw[rk]at h0;have hc:=ix_L H fv p es g hes hH hfv hp;refine aF tok Tryz.func183 rfl rfl ?_;refine wx ?_;simp -dsimp[Tryz.f183,rO];refine aQ.mono (K:=fun r H'=>r = .int .i64 (ixP p es 0)∧H'=H) hc ?_;rintro r H' ⟨rfl,rfl⟩;simp -dsimp[];rw[←h0]
theorem ix_I(H:List B)(fv:V)(p:Int→Bool)(es:List Int)(g:Bool)(hes:es.length≤1000000)(hH:∀bl∈H,rbB H.length bl)(hfv:rb H.length fv)
  (hp:∀m∈es,aQ Tryz.prog fv [V.int .i64 m] H fun r H'=>r = .bool (p m)∧H'=H):av Tryz.prog 156 [L1 g es,fv] H fun r H'=>r = .int .i64 (ixP p es 0)∧H'=H:=by
 refine aF tok Tryz.func156 rfl rfl ?_;refine wx ?_;simp -dsimp[Tryz.f156,rO,L1];refine aG (W_loopM 19 0x7ff30 (by simp[mB]<;>rfl) (σ:=Nat) (fun i=>ixP p es i=ixP p es 0) (fun i=>es.length-i) (fun i=>[(8,.int .i64 i)]) (fun _=>H) 0 rfl (by simp) rfl (by simp) ?_);intro i hx N Q hN hQ;by_cases hb:i<es.length
 ·rw[ixP,dif_pos hb]at hx;have hc:=hp es[i] (rQ hb);cases hq:p es[i]
  ·rw[hq]at hc hx;refine wx ?_;simp -dsimp[hb,aE];refine hc.mono ?_;rintro r H' ⟨rfl,rfl⟩;simp -dsimp[aH i (by omega)];refine hN (i+1) _ _ (by simpa using hx) (by omega) (by simp) ⟨[],by simp⟩ (by simp;exact hfv) hH
  ·rw[hq]at hc hx;refine wx ?_;simp -dsimp[hb,aE];refine hc.mono ?_;rintro r H' ⟨rfl,rfl⟩;simp -dsimp[];refine hQ _ _ _ ?_;simp -dsimp[];simpa using hx
 ·rw[ixP,dif_neg hb]at hx;refine wx ?_;simp -dsimp[hb];refine hQ _ _ _ ?_;simp -dsimp[];simpa using hx
theorem cont_I(H:List B)(fv:V)(p:Int→Bool)(es:List Int)(g:Bool)(hes:es.length≤1000000)(hH:∀bl∈H,rbB H.length bl)(hfv:rb H.length fv)
  (hp:∀m∈es,aQ Tryz.prog fv [V.int .i64 m] H fun r H'=>r = .bool (p m)∧H'=H):av Tryz.prog 100 [L1 g es,fv] H fun r H'=>r = .bool (es.any p)∧H'=H:=by
 have h0:=oo p es 0;rw[rk]at h0;have hc:=ix_I H fv p es g hes hH hfv hp;refine aF tok Tryz.func100 rfl rfl ?_;refine wx ?_;simp -dsimp[Tryz.f100,rO];refine aQ.mono (K:=fun r H'=>r = .int .i64 (ixP p es 0)∧H'=H) hc ?_;rintro r H' ⟨rfl,rfl⟩;simp -dsimp[];rw[←h0]
theorem ix_R(H:List B)(fv:V)(p:Rw→Bool)(es:List Rw)(g:Bool)(hes:es.length≤1000000)(hH:∀bl∈H,rbB H.length bl)(hfv:rb H.length fv)
  (hp:∀m∈es,aQ Tryz.prog fv [aI m] H fun r H'=>r = .bool (p m)∧H'=H):av Tryz.prog 96 [LR g es,fv] H fun r H'=>r = .int .i64 (ixP p es 0)∧H'=H:=by
 refine aF tok Tryz.func96 rfl rfl ?_;refine wx ?_;simp -dsimp[Tryz.f96,rO,LR];refine aG (W_loopM 19 0x7ff30 (by simp[mB]<;>rfl) (σ:=Nat) (fun i=>ixP p es i=ixP p es 0) (fun i=>es.length-i) (fun i=>[(8,.int .i64 i)]) (fun _=>H) 0 rfl (by simp) rfl (by simp) ?_);intro i hx N Q hN hQ;by_cases hb:i<es.length
 ·rw[ixP,dif_pos hb]at hx;have hc:=hp es[i] (rQ hb);cases hq:p es[i]
  ·rw[hq]at hc hx;refine wx ?_;simp -dsimp[hb];refine hc.mono ?_;rintro r H' ⟨rfl,rfl⟩;simp -dsimp[aH i (by omega)];refine hN (i+1) _ _ (by simpa using hx) (by omega) (by simp) ⟨[],by simp⟩ (by simp;exact hfv) hH
  ·rw[hq]at hc hx;refine wx ?_;simp -dsimp[hb];refine hc.mono ?_;rintro r H' ⟨rfl,rfl⟩;simp -dsimp[];refine hQ _ _ _ ?_;simp -dsimp[];simpa using hx
 ·rw[ixP,dif_neg hb]at hx;refine wx ?_;simp -dsimp[hb];refine hQ _ _ _ ?_;simp -dsimp[];simpa using hx
theorem cont_R(H:List B)(fv:V)(p:Rw→Bool)(es:List Rw)(g:Bool)(hes:es.length≤1000000)(hH:∀bl∈H,rbB H.length bl)(hfv:rb H.length fv)
  (hp:∀m∈es,aQ Tryz.prog fv [aI m] H fun r H'=>r = .bool (p m)∧H'=H):av Tryz.prog 243 [LR g es,fv] H fun r H'=>r = .bool (es.any p)∧H'=H:=by
 have h0:=oo p es 0;rw[rk]at h0;have hc:=ix_R H fv p es g hes hH hfv hp;refine aF tok Tryz.func243 rfl rfl ?_;refine wx ?_;simp -dsimp[Tryz.f243,rO];refine aQ.mono (K:=fun r H'=>r = .int .i64 (ixP p es 0)∧H'=H) hc ?_;rintro r H' ⟨rfl,rfl⟩;simp -dsimp[];rw[←h0]
end
end Go.Proofs.YtjogkbekekdkjaaGreatDoor
namespace Go.Proofs.YtjogkbekekdkjaaGreatDoor
section
open Go Go.AM Go.RowKit
theorem capRw(n:Nat)(h:n≤1000000000):n≤9223372036854775806∧(n+1)*32≤140737488355328:=by omega
theorem capCn(n:Nat)(h:n≤1000000):n≤9223372036854775806∧(n+1)*272≤140737488355328:=by omega
theorem eg{f:FuncId}{args:List V}{e z:Nat}(hE:AM.Enters Tryz.prog f)(h:∀(F:Nat→Prop) (w:World) (vals:Array Value),vals.size=args.length→(∀(i:Nat) a u,args[i]?=some a→vals[i]?=some u→Rel (AM.base F w) a u)→
  Calls Tryz.prog f vals w fun e' w'=>∃v,e' = .returned v∧Below w.heap.size w w'∧(v = .slice none 0 0∨∃g c cur,v = .slice (some ⟨g,0,none⟩) 0 c∧w.heap.size≤g∧w'.heap[g]?=some (.cells cur e (0,0))∧c≤maxLen∧cur.size=c*z)):gy Tryz.prog f args fun e' z' ys=>e'=e∧z'=z∧ys=[]:=by
 refine⟨hE,fun F w vals hZ hF hsz hrel=>(h F w vals hsz hrel).mono fun e' w' ⟨v,he,hb,hv⟩=>?_⟩
 rcases hv with hv | ⟨g,c,cur,hv,hg,hc,hm,hs⟩
 ·have hF':∀b,F b→b<w'.heap.size:=fun b hb'=>sI (hF b hb') hb.size
  obtain⟨p1,_⟩:=pZ (AM.base_good hF') (w:=w') 0 e z false rfl rfl rfl (rd _) (fun _ _=>rfl);refine⟨v,e,z,[],none,0,0,he,hv,fun h=>absurd rfl h,by simp,fun h=>absurd rfl h,?_,hb,rfl,rfl,rfl⟩;refine⟨hF',fun k hk=>absurd (hk.2 e z [] false (by have:=hk.1;simp at this;subst this;rfl)) (by simp),fun j k hj hk _=>by have:=hj.1;have:=hk.1;simp at *;omega,fun k bl hk=>?_⟩
  have hk0:k=0:=by have:=aB hk;simp at this;omega
  subst hk0;simp at hk;subst hk;exact⟨#[],fun h=>absurd rfl h,by simp,by simp,by simp[maxLen],(fun x hx=>by cases hx),(fun i x j c u hx=>by simp at hx)⟩
 ·have hF':∀b,F b→b<w'.heap.size:=fun b hb'=>sI (hF b hb') hb.size
  refine⟨v,e,z,[],some ⟨g,0,none⟩,g,c,he,hv,fun _=>rfl,by simp,fun _=>hg,?_,hb,rfl,rfl,rfl⟩;refine⟨hF',fun k hk=>⟨(Array.getElem?_eq_some_iff.1 hc).1,fun hf=>by have:=hF g hf;omega⟩,fun j k hj hk _=>by have:=hj.1;have:=hk.1;simp at *;omega,fun k bl hk=>?_⟩
  have hk0:k=0:=by have:=aB hk;simp at this;omega
  subst hk0;simp at hk;subst hk;exact⟨cur,fun _=>hc,by simpa using hs,by simp,hm,(fun x hx=>by cases hx),(fun i x j c u hx=>by simp at hx)⟩
theorem infoD_R:(Tryz.prog.info? 80).map (fun i=>(i.zero,i.size,i.bytes))=some (some (.agg #[.int .i64 0,.slice none 0 0]),2,32):=by kernel_rfl
theorem cloneE_R(A:Option Addr)(cap:Nat)(w:World):
  Calls Tryz.prog 245 #[.slice A 0 cap] w fun e w'=>∃v,e = .returned v∧w'.ownsRow w.heap.size 80 2 v 0 []∧Below w.heap.size w w':=by
 have hnil:=fun W A n c=>Lib.run_eql_slice_nil (P:=Tryz.prog) W 30 80 A n c 0 0 Tryz.underlying30
 cases A with
 | none =>
  go_enter Tryz.func245,Tryz.ntmps245
  go_wp2
  go_ret
  exact⟨_,rfl,World.ownsRow_nil _ _ _ _,Below.refl _ _⟩
 | some ad =>
  obtain⟨i0,hi,hz0,hz1,hz2⟩:=info_parts infoD_R;have hown:(w.alloc (.cells #[] 80)).ownsRow w.heap.size 80 2 (.slice (some ⟨w.heap.size,0,none⟩) 0 0) 0 []:=World.ownsRow_lit w #[] 0 (rd _) (by simp[maxLen]) (by simp)
  have hnews:∀j u,([]:List Value)[j]?=some u→(w.alloc (.cells #[] 80)).cell? (ad.add j)=some u:=by
   intro j u hu;simp at hu
  have hone:∀u∈([]:List Value),u.oneCell'=true:=by intro u hu;cases hu
  have h63:0+0≤maxLen:=by simp[maxLen]
  have hby:(0+0)*32≤140737488355328:=by omega
  have hlen:([]:List Value).length=0*2:=by simp
  have Hi:=Lib.hid (show Tryz.prog.info? 80=some i0∧i0.zero=some _∧i0.size=2∧i0.bytes=32 from⟨hi,hz0,hz1,hz2⟩);have Hw:=Lib.hid (And.intro hown (And.intro hnews (And.intro hone (And.intro h63 (And.intro hby hlen)))));clear hnews hone hown hi hz0 hz1 hz2 h63 hby hlen
  go_enter Tryz.func245,Tryz.ntmps245
  go_wp2_with (at_builtin;refine wpList_append_own _ rfl _ _ 30 rfl w.heap.size 80 i0 _ 2 32 Tryz.underlying30 Hi.out.1 Hi.out.2.1 Hi.out.2.2.1 Hi.out.2.2.2 rfl (by omega) (.slice (some ⟨w.heap.size,0,none⟩) 0 0) 0 [] rfl Hw.out.1 ad 0 cap [] rfl Hw.out.2.2.2.2.2 Hw.out.2.1 Hw.out.2.2.1 Hw.out.2.2.2.1 Hw.out.2.2.2.2.1 (by simp) ?_;intro v1 w1 ho hg hn;have Ho:=Lib.hid ho;have Hg:=Lib.hid hg;have Hn:=Lib.hid hn;clear ho hg hn)
  go_ret
  exact⟨v1,rfl,by have:=Ho.out;simpa using this,((Below.refl _ _).alloc (rd _) _).grown Hg.out (by simp) (by simp[Value.ownBlock])⟩
theorem cloneN_R:∀(f:Bool),aL Tryz.prog 245 [.lst 2 f []] fun r=>r = .lst 2 false []:=fun f=>by
 have hO:gy Tryz.prog 245 [.lst 2 f []] fun e z ys=>e=80∧z=2∧ys=[]:=eg ⟨Tryz.f245,Tryz.func245,rfl,rfl⟩ (fun F w vals hsz hrel=>by
  obtain⟨u0,rfl⟩:∃u0,vals = #[u0]:=by
   obtain⟨l⟩:=vals
   match l,hsz with
   | [a],_=>exact⟨a,rfl⟩
  have r0:=hrel 0 _ u0 rfl rfl;cases r0
  refine(cloneE_R _ _ _).mono fun e' w' ⟨v,he,hown,hb⟩=>⟨v,he,hb,?_⟩
  obtain⟨_,⟨hv,_⟩ | ⟨g,c,cur,hv,hg,hc,hn,hm,hs,_⟩⟩:=hown
  ·exact .inl hv
  ·exact .inr ⟨g,c,cur,hv,hg,hc,hm,hs⟩)
 refine⟨hO.1,fun F w vals hZ hF hsz hrel=>((eO hO).2 F w vals hZ hF hsz hrel).mono fun e w' ⟨u,r,h1,h2,h3,h4,e',z,ys,h5,h6,h7,h8⟩=>?_⟩;subst h6;subst h7;subst h8;exact⟨u,r,h1,h2,h3,h4,h5⟩
theorem infoD_K:(Tryz.prog.info? 62).map (fun i=>(i.zero,i.size,i.bytes))=some (some (.agg #[.string rY,.string rY,.int .i64 0,.int .u32 0,.int .u32 0,.int .u32 0,.int .u32 0,.string rY,.slice none 0 0,.string rY,.slice none 0 0,.slice none 0 0,.int .i64 0,.slice none 0 0,.slice none 0 0,.slice none 0 0,.int .i64 0,.slice none 0 0]),18,272):=by kernel_rfl
theorem cloneE_K(A:Option Addr)(cap:Nat)(w:World):
  Calls Tryz.prog 14 #[.slice A 0 cap] w fun e w'=>∃v,e = .returned v∧w'.ownsRow w.heap.size 62 18 v 0 []∧Below w.heap.size w w':=by
 have hnil:=fun W A n c=>Lib.run_eql_slice_nil (P:=Tryz.prog) W 33 62 A n c 0 0 Tryz.underlying33
 cases A with
 | none =>
  go_enter Tryz.func14,Tryz.ntmps14
  go_wp2
  go_ret
  exact⟨_,rfl,World.ownsRow_nil _ _ _ _,Below.refl _ _⟩
 | some ad =>
  obtain⟨i0,hi,hz0,hz1,hz2⟩:=info_parts infoD_K;have hown:(w.alloc (.cells #[] 62)).ownsRow w.heap.size 62 18 (.slice (some ⟨w.heap.size,0,none⟩) 0 0) 0 []:=World.ownsRow_lit w #[] 0 (rd _) (by simp[maxLen]) (by simp)
  have hnews:∀j u,([]:List Value)[j]?=some u→(w.alloc (.cells #[] 62)).cell? (ad.add j)=some u:=by
   intro j u hu;simp at hu
  have hone:∀u∈([]:List Value),u.oneCell'=true:=by intro u hu;cases hu
  have h63:0+0≤maxLen:=by simp[maxLen]
  have hby:(0+0)*272≤140737488355328:=by omega
  have hlen:([]:List Value).length=0*18:=by simp
  have Hi:=Lib.hid (show Tryz.prog.info? 62=some i0∧i0.zero=some _∧i0.size=18∧i0.bytes=272 from⟨hi,hz0,hz1,hz2⟩);have Hw:=Lib.hid (And.intro hown (And.intro hnews (And.intro hone (And.intro h63 (And.intro hby hlen)))));clear hnews hone hown hi hz0 hz1 hz2 h63 hby hlen
  go_enter Tryz.func14,Tryz.ntmps14
  go_wp2_with (at_builtin;refine wpList_append_own _ rfl _ _ 33 rfl w.heap.size 62 i0 _ 18 272 Tryz.underlying33 Hi.out.1 Hi.out.2.1 Hi.out.2.2.1 Hi.out.2.2.2 rfl (by omega) (.slice (some ⟨w.heap.size,0,none⟩) 0 0) 0 [] rfl Hw.out.1 ad 0 cap [] rfl Hw.out.2.2.2.2.2 Hw.out.2.1 Hw.out.2.2.1 Hw.out.2.2.2.1 Hw.out.2.2.2.2.1 (by simp) ?_;intro v1 w1 ho hg hn;have Ho:=Lib.hid ho;have Hg:=Lib.hid hg;have Hn:=Lib.hid hn;clear ho hg hn)
  go_ret
  exact⟨v1,rfl,by have:=Ho.out;simpa using this,((Below.refl _ _).alloc (rd _) _).grown Hg.out (by simp) (by simp[Value.ownBlock])⟩
theorem cloneN_K:∀(f:Bool),aL Tryz.prog 14 [.lst 18 f []] fun r=>r = .lst 18 false []:=fun f=>by
 have hO:gy Tryz.prog 14 [.lst 18 f []] fun e z ys=>e=62∧z=18∧ys=[]:=eg ⟨Tryz.f14,Tryz.func14,rfl,rfl⟩ (fun F w vals hsz hrel=>by
  obtain⟨u0,rfl⟩:∃u0,vals = #[u0]:=by
   obtain⟨l⟩:=vals
   match l,hsz with
   | [a],_=>exact⟨a,rfl⟩
  have r0:=hrel 0 _ u0 rfl rfl;cases r0
  refine(cloneE_K _ _ _).mono fun e' w' ⟨v,he,hown,hb⟩=>⟨v,he,hb,?_⟩
  obtain⟨_,⟨hv,_⟩ | ⟨g,c,cur,hv,hg,hc,hn,hm,hs,_⟩⟩:=hown
  ·exact .inl hv
  ·exact .inr ⟨g,c,cur,hv,hg,hc,hm,hs⟩)
 refine⟨hO.1,fun F w vals hZ hF hsz hrel=>((eO hO).2 F w vals hZ hF hsz hrel).mono fun e w' ⟨u,r,h1,h2,h3,h4,e',z,ys,h5,h6,h7,h8⟩=>?_⟩;subst h6;subst h7;subst h8;exact⟨u,r,h1,h2,h3,h4,h5⟩
theorem clone_K(l:List Cn)(f:Bool)(hl:l.length≤1000000):aL Tryz.prog 14 [LCn f l] fun r=>r=LCn false l:=by
 cases l with
 | nil=>exact cloneN_K f
 | cons x xs =>
  have hl':xs.length≤1000000:=by simp only[sB]at hl;omega
  refine sPx Tryz.func14 rfl rfl ?_;simp -dsimp[Tryz.f14,rO,LCn,dm,capCn xs.length (by omega),af];exact dP rfl (by simp) (by simp)
theorem cloneO0_R(f:Bool):gy Tryz.prog 245 [.lst 2 f []] fun e z ys=>e=80∧z=2∧ys=[]:=eg ⟨Tryz.f245,Tryz.func245,rfl,rfl⟩ (fun F w vals hsz hrel=>by
  obtain⟨u0,rfl⟩:∃u0,vals = #[u0]:=by
   obtain⟨l⟩:=vals
   match l,hsz with
   | [a],_=>exact⟨a,rfl⟩
  have r0:=hrel 0 _ u0 rfl rfl;cases r0
  refine(cloneE_R _ _ _).mono fun e' w' ⟨v,he,hown,hb⟩=>⟨v,he,hb,?_⟩
  obtain⟨_,⟨hv,_⟩ | ⟨g,c,cur,hv,hg,hc,hn,hm,hs,_⟩⟩:=hown
  ·exact .inl hv
  ·exact .inr ⟨g,c,cur,hv,hg,hc,hm,hs⟩)
theorem cloneO_R(l:List Rw)(f:Bool)(hl:l.length≤1000000):gy Tryz.prog 245 [.lst 2 f (l.map aI)] fun e z ys=>e=80∧z=2∧ys=l.map aI:=by
 cases l with
 | nil=>exact cloneO0_R f
 | cons x xs =>
  have hl':xs.length≤1000000:=by simp only[sB]at hl;omega
  refine sOx Tryz.func245 rfl rfl ?_;simp -dsimp[Tryz.f245,rO,dm,capRw xs.length (by omega),aI];exact⟨0,80,2,aI x::xs.map aI,by simp,rfl,by simp,rfl,rfl,rfl⟩
theorem tz_low{x t:Nat}(h0:0<x)(hx:x<4294967296)(ht:t<32)(h:x &&& (4294967296-x)=2^t):tzI x=t:=by
 have h1:(-(x:Int)) % 4294967296=((4294967296-x:Nat):Int):=by omega
 have h2:bits BinOp.and IntKind.u32 (x:Int) (-(x:Int) % 4294967296)=((2^t:Nat):Int):=by
  rw[h1,(bits_nat IntKind.u32 32 (by decide) (fun n h1 h2=>by rw[IntKind.wrap_u32];omega) x (4294967296-x) (by omega) (by omega)).1,h]
 have key:∀t:Fin 32,(fP[(((2^t.1:Nat):Int)*125613361 % 4294967296 / 134217728).toNat]?).getD 0=(t.1:Int):=by decide
 unfold tzI;rw[if_neg (by omega)];unfold tzIx;rw[h2];exact key ⟨t,ht⟩
def inN(l:List Nat):List Int:=l.map fun n:Nat=>(n:Int)
theorem eM(l:List Nat):(inN l).length=l.length:=by simp[inN]
theorem inN_snoc(l:List Nat)(t:Nat):inN (l++[t])=inN l++[(t:Int)]:=by simp[inN]
theorem pred32(x:Nat)(h:0<x)(h2:x<4294967296):IntKind.u32.wrap ((x:Int)-1)=((x-1:Nat):Int):=by rw[IntKind.wrap_u32];omega
theorem members_u(s:Nat)(hs:s<4294967296):aL Tryz.prog 178 [.int .u32 s] fun r=>r=L1 false (inN (dR 32 s)):=by
 obtain⟨E,hE⟩:∃E,E=dR 32 s:=⟨_,rfl⟩;rw[←hE]
 have hEl:E.length≤32:=by rw[hE];exact fX _ _
 refine sPx Tryz.func178 rfl rfl ?_;simp -dsimp[Tryz.f178,rO];refine aG (bf 3 1 [3] (by simp) (W_loopM 15 0x7ff9 (by simp[mB]<;>rfl) (σ:=Nat×List Nat) (fun p=>p.2++dR 32 p.1=E∧p.1<4294967296) (fun p=>p.1) (fun p=>[(0,.int .u32 p.1),(3,.buf 0 0 p.2.length p.2.length)]) (fun p=>[B.buf 3 1 ((inN p.2).map aE) false]) (s,[]) ⟨by rw[hE];rfl,hs⟩ (by simp) (by simp[inN]) (by simp) ?_));rintro⟨x,out⟩ ⟨hx,hlt⟩ N Q hN hQ;simp only at hx hlt;by_cases h0:x=0
 ·subst h0;rw[jD (fun j _=>Nat.zero_testBit j),rj]at hx;subst hx;refine wx ?_;simp -dsimp[];refine hQ _ _ _ ?_;simp -dsimp[];exact dP rfl (by simp[eM]) (by simp[aE])
 ·obtain⟨t,ht,h1,h2,h3,h4⟩:=bits_step (show 0<x by omega) hlt;have hc:=tz_con (x:Int);rw[tz_low (by omega) hlt ht h3]at hc;rw[h2]at hx
  have hol:out.length≤32:=by rw[←hx]at hEl;simp only[ri]at hEl;omega
  have ha:=and32 x (x-1) hlt (by omega);obtain⟨y,hy⟩:∃y,y=x &&& (x-1):=⟨_,rfl⟩;rw[←hy]at ha h4 hx
  have hx0:¬(x:Int)=0:=by omega
  refine wx ?_;simp -dsimp[h0,hx0];refine cPx (hc) (by simp) ?_;simp -dsimp[eM,go out.length (by omega),pred32 x (by omega) hlt,ha];refine hN (y,out++[t]) _ _ ⟨by rw[←hx];simp,by omega⟩ (by simp only;omega) (by simp) ⟨_,by simp[inN_snoc,aE];rfl⟩ (by simp) (by simp[aE])
theorem ofD_u(v a:Int):aL Tryz.prog 236 [.int .i64 v,.int .i64 a] fun r=>r=bP ⟨v,a,zV⟩:=by
 refine sPx Tryz.func236 rfl rfl ?_;simp -dsimp[Tryz.f236,rO,bP,zV]
theorem both_u(op:Int)(a:Nat):aL Tryz.prog 179 [.int .i64 op,.int .i64 a] fun r=>r=ar (dZ op a):=by
 have c1:=ofD_u 1 a;have c2:=ofD_u 2 a;simp only[bP]at c1 c2;refine sPx Tryz.func179 rfl rfl ?_;simp -dsimp[Tryz.f179,rO];refine cPx (c1) (by simp) ?_;simp -dsimp[];refine cPx (c2) (by simp) ?_;simp -dsimp[];rfl
def LDn(f:Bool)(ds:List Dn):V:=.lst 2 f (ds.map (aq false))
@[simp] theorem LDn_pure (f:Bool) (ds:List Dn):AM.Pure (LDn f ds):=by simp[LDn]
theorem shr32(a n:Nat)(hn:n≤16):((a:Int)).fdiv (2^min n IntKind.u32.bits)=((a / 2^n:Nat):Int):=by
 have h1:min n IntKind.u32.bits=n:=vO (by show n≤32;omega);rw[h1,Int.fdiv_eq_ediv_of_nonneg _ (by have:(0:Int)<2^n:=Int.pow_pos (by omega);omega)];simp
theorem closV(n:Nat)(d:Fd)(f:Bool)(hn:n≤16)(hd:d.l<4294967296∧d.r<4294967296)(ho:eF n d=true):aL Tryz.prog 177 [.int .i64 n,.lst 2 f [gH d]] fun r=>r = .int .i64 0:=by
 have hn1:¬(16:Int)<n:=by omega
 have hn0:¬(n:Int)<0:=by omega
 have h1:=or32 d.l d.r hd.1 hd.2;have h2:=shr32 (d.l ||| d.r) n hn;unfold eF at ho;rw[decide_eq_true_eq]at ho;rw[ho]at h2
 obtain⟨o,hoe⟩:∃o,o=d.l ||| d.r:=⟨_,rfl⟩
 rw[←hoe]at h1 h2;refine sPx Tryz.func177 rfl rfl ?_;simp -dsimp[Tryz.f177,rO,hn0,hn1,gH];refine aG (W_loopM 31 0x7ffc0050 (by simp[mB]<;>rfl) (σ:=Nat) (fun i=>i≤1) (fun i=>1-i) (fun i=>[(18,.int .i64 i)]) (fun _=>[]) 0 (by omega) (by simp) rfl (by simp) ?_);intro i hi N Q hN hQ;by_cases hb:i=0
 ·subst hb;refine wx ?_;simp -dsimp[h1,h2,show IntKind.i64.wrap (1:Int)=1 from wrap64 (by omega) (by omega)];refine hN 1 _ _ (by omega) (by omega) (by simp) ⟨[B.cells [.int .u32 (d.l:Int),.int .u32 (d.r:Int)]],by simp⟩ (by simp) (by simp)
 ·obtain rfl:i=1:=by omega
  refine wx ?_;simp -dsimp[];refine hQ _ _ _ ?_;simp -dsimp[]
end
end Go.Proofs.YtjogkbekekdkjaaGreatDoor
