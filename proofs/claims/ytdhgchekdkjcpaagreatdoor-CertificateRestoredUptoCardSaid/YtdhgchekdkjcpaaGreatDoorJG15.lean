/- JG15: own texts of this seat, joined and shortened by pack4.py: Pq, Pi, Pj, Pk0, Sm, Pl0, A1b, B20, B40, Pl1. -/
import Derived.Test.YtdhgchekdkjcpaaGreatDoorJG14
set_option linter.unusedVariables false
set_option linter.unusedSimpArgs false
set_option maxRecDepth 100000
set_option maxHeartbeats 64000000
open Bool renaming or_false→mD
open ByteArray renaming empty→aX
open Int renaming tmod_eq_emod_of_nonneg→kz,eq_ofNat_of_zero_le→lZ
open List renaming replicate→kQ,getElem?_eq_getElem→kR,length_append→kT,nil_append→kX,cons_append→kf,map_cons→kj,eq_nil_of_length_eq_zero→kr,drop_zero→ky,map_nil→lD,drop_eq_getElem_cons→lH,getElem_append_left→li,take_succ_cons→ll,take_zero→ly,any_cons→mF,any_nil→mR,drop_drop→mT
namespace Go.Proofs.YtdhgchekdkjcpaaGreatDoor
section
open Go Go.AM Go.Lib
theorem addC_2{c:Cert}(hk:c.k=2)(st:Nat)(w:List UInt8)(ns:List Int):ad c st w ns=if w=ao∧st=0∧ns.length=2 then some ({ c with cells:=c.cells++[⟨gN ns 0,gN ns 1⟩] },0)
  else if w=al∧st≤1∧ns.length % 2=0 then some ({ c with cores:=c.cores++[iW ns] },1)
  else match aW w ns with
   | none=>none
   | some n=>some ({ c with upr:=c.upr++[n] },2):=by
 unfold ad;rw[if_neg (fun h=>by rw[hk]at h;exact absurd h.1 (by decide))];by_cases h1:w=ao∧st=0∧ns.length=2
 ·rw[if_pos ⟨hk,h1⟩,if_pos h1]
 ·rw[if_neg (fun h=>h1 h.2),if_neg h1];by_cases h2:w=al∧st≤1∧ns.length % 2=0
  ·rw[if_pos ⟨hk,h2⟩,if_pos h2]
  ·rw[if_neg (fun h=>h2 h.2),if_neg h2,if_neg (fun h=>by rw[hk]at h;exact absurd h.1 (by decide)),if_neg (fun h=>by rw[hk]at h;exact absurd h.1 (by decide)),if_neg (fun h=>by rw[hk]at h;exact absurd h.1 (by decide))]
   cases aW w ns with
   | none=>rfl
   | some n =>
    simp only;rw[if_neg (by rw[hk];decide),if_pos hk]
theorem gK(ns:List Int):aW ao ns=none:=by unfold aW;rw[if_neg (fun h=>by cases h.1),if_neg (fun h=>by cases h.1)]
theorem gJ(ns:List Int):aW al ns=none:=by unfold aW;rw[if_neg (fun h=>by cases h.1),if_neg (fun h=>by cases h.1)]
def Pd2R(R0:B)(o:Option (Cert×Nat))(r:V)(H':List B):Prop:=match o with
 | some (c',st')=>r = .bool true∧∃G,H'=cG R0 c'.cells c'.cores c'.upr (st'+1) false++G
 | none=>r = .bool false∧∃G,H'=R0::G
theorem changes_c(R0:B)(hR0:∀n,rbB n R0)(c:Cert)(hk:c.k=2)(st:Nat)(hst:st≤2)(w:List UInt8)(ns:List Int)(hl:ns.length≤100000)(h1:c.cells.length≤100000)(h2:c.cores.length≤100000)(hp:c.upr.length≤100000):
  aq Tryz.prog 46 [.ptr 1 0,lnV w ns] (cG R0 c.cells c.cores c.upr (st+1) false++[LnB w ns,LnB w ns]) (Pd2R R0 (ad c st w ns)):=by
 rw[addC_2 hk]
 have hat:∀R t ok,_:=fun R t ok=>at_c R0 (.int .i64 2) .nilS (.int .i64 0) .nilS (.buf 2 0 c.cells.length c.cells.length) (.str aX) .nilS .nilS (.buf 3 0 c.cores.length c.cores.length) (.buf 4 0 c.upr.length c.upr.length) .nilS .nilS .nilS (.int .u32 0) (.int .u32 0) R (st+1) t false ok
 by_cases hw:w=ao
 ·subst hw;rw[if_neg (show ¬(ao=al∧st≤1∧ns.length % 2=0) from fun h=>by cases h.1),gK];have hh:=cq ao ns 2;simp only[lnV,ao]at hh;by_cases hn:ns.length=2
  ·rw[decide_eq_true hn]at hh;by_cases hs:st=0
   ·subst hs;rw[if_pos ⟨rfl,rfl,hn⟩];have hce:=cells_l ao ns hl (by omega);obtain⟨a,b,rfl⟩:=jP hn;have ec:iW [a,b]=[⟨a,b⟩]:=rfl;rw[ec]at hce;simp only[lnV,ao,kj,lD,aD,aJ,aK]at hh hce;refine aB tok Tryz.func46 rfl rfl ?_;refine wx ?_;simp -dsimp[Tryz.f46,kQ,cG,LnB,lnV,ao,aC,aD];refine cPx (hh) (by simp) ?_;simp -dsimp[];refine wcE (by simpa using hat _ 1 true) ?_;simp -dsimp[];refine aS (ai tok mixed [7,10] [(0,[0,1])] [(.lst 2 false [.agg [.int .i64 a,.int .i64 b]],[R0,B.cells [.int .i64 2,.nilS,.int .i64 0,.nilS,.buf 2 0 c.cells.length c.cells.length,.str aX,.nilS,.nilS,.buf 3 0 c.cores.length c.cores.length,.buf 4 0 c.upr.length c.upr.length,.nilS,.nilS,.nilS,.int .u32 0,.int .u32 0,.int .i64 1,.bool false],B.buf 133 2 (c.cells.map aK) false,B.buf 27 1 (c.cores.map aJ) false,B.buf 108 2 (c.upr.map aE) false,LnB ao [a,b],LnB ao [a,b],LnB ao [a,b]])] (by kernel_rfl) fun C K hC hK=>?_);simp -implicitDefEqProofs [fx c.cells.length (by omega),LnB,ao,aD];refine⟨hC _ _ _ _ (cr hce (by simp)),hK _ _ ?_⟩;simp -dsimp[];unfold Pd2R;refine⟨by simp,[LnB ao [a,b],LnB ao [a,b],LnB ao [a,b]],?_⟩;simp[cG,LnB,ao,aD,aK,gN]
   ·rw[if_neg (fun h=>hs h.2.1)]
    have hs2:¬st+1≤1:=by omega
    refine aB tok Tryz.func46 rfl rfl ?_;refine wx ?_;simp -dsimp[Tryz.f46,kQ,cG,LnB,lnV,ao,aC];refine cPx (hh) (by simp) ?_;simp -dsimp[];refine wcE (by simpa using hat _ 1 true) ?_;simp -dsimp[hs,hs2];exact⟨rfl,_,rfl⟩
  ·rw[decide_eq_false hn]at hh;rw[if_neg (fun h=>hn h.2.2)];refine aB tok Tryz.func46 rfl rfl ?_;refine wx ?_;simp -dsimp[Tryz.f46,kQ,cG,LnB,lnV,ao,aC];refine cPx (hh) (by simp) ?_;simp -dsimp[];refine wcE (by simpa using hat _ 1 false) ?_;simp -dsimp[];exact⟨rfl,_,rfl⟩
 rw[if_neg (fun h=>hw h.1)];have n1:¬(bs w).toList=(bs [99,101,108,108]).toList:=ae hw;by_cases hw2:w=al
 ·subst hw2;have n1:¬(bs [99,111,114,101]).toList=(bs [99,101,108,108]).toList:=n1;rw[gJ];by_cases hev:ns.length % 2=0
  case neg =>
   rw[if_neg (fun h=>hev h.2.2)]
   have hn3:¬((ns.length:Int).tmod 2=0):=by rw[kz (by omega)];omega
   have hn4:((ns.length:Int).tmod 2 == 0)=false:=by simpa using hn3
   refine aB tok Tryz.func46 rfl rfl ?_;refine wx ?_;simp -dsimp[Tryz.f46,kQ,cG,LnB,lnV,al,aC,n1,hn4];refine wcE (by simpa using hat _ 2 false) ?_;simp -dsimp[];exact⟨rfl,_,rfl⟩
  have hn3:(ns.length:Int).tmod 2=0:=by rw[kz (by omega)];omega
  by_cases hs:st≤1
  case neg =>
   rw[if_neg (fun h=>hs h.2.1)]
   have hs2:¬st+1≤2:=by omega
   refine aB tok Tryz.func46 rfl rfl ?_;refine wx ?_;simp -dsimp[Tryz.f46,kQ,cG,LnB,lnV,al,aC,n1,hn3];refine wcE (by simpa using hat _ 2 true) ?_;simp -dsimp[hs,hs2];exact⟨rfl,_,rfl⟩
  rw[if_pos ⟨rfl,hs,hev⟩]
  have hs2:st+1≤2:=by omega
  have hce:=cells_l al ns hl hev;simp only[lnV,al]at hce;refine aB tok Tryz.func46 rfl rfl ?_;refine wx ?_;simp -dsimp[Tryz.f46,kQ,cG,LnB,lnV,al,aC,n1,hn3];refine wcE (by simpa using hat _ 2 true) ?_;simp -dsimp[hs,hs2];refine aS (ai tok mixed [8,11] [(0,[0,1])] [(aJ (iW ns),[R0,B.cells [.int .i64 2,.nilS,.int .i64 0,.nilS,.buf 2 0 c.cells.length c.cells.length,.str aX,.nilS,.nilS,.buf 3 0 c.cores.length c.cores.length,.buf 4 0 c.upr.length c.upr.length,.nilS,.nilS,.nilS,.int .u32 0,.int .u32 0,.int .i64 2,.bool false],B.buf 133 2 (c.cells.map aK) false,B.buf 27 1 (c.cores.map aJ) false,B.buf 108 2 (c.upr.map aE) false,LnB al ns,LnB al ns,LnB al ns])] (by kernel_rfl) fun C K hC hK=>?_);simp -implicitDefEqProofs [cap24 c.cores.length (by omega),LnB,al,aJ];refine⟨hC _ _ _ _ (cr (by simpa[aJ] using hce) (by simp)),hK _ _ ?_⟩;simp -dsimp[];unfold Pd2R;refine⟨by simp,[LnB al ns,LnB al ns,LnB al ns],?_⟩;simp[cG,LnB,al,aJ]
 rw[if_neg (fun h=>hw2 h.1)];have n2:¬(bs w).toList=(bs [99,111,114,101]).toList:=ae hw2;obtain⟨b,H0,hn,hr⟩:=node_c2 R0 hR0 c.cells c.cores c.upr (st+1) (by omega) w ns hl hp
 have hr2:Pd2R R0 (match aW w ns with
  | none=>none
  | some n=>some ({ c with upr:=c.upr++[n] },2)) (.bool b) H0:=by
  unfold Nd2R at hr
  cases hx:aW w ns with
  | none=>rw[hx]at hr;exact hr
  | some x=>rw[hx]at hr;exact hr
 simp only[cG,LnB,lnV,kf,kX]at hn;refine aB tok Tryz.func46 rfl rfl ?_;refine wx ?_;simp -dsimp[Tryz.f46,kQ,cG,LnB,lnV,aC,n1,n2];refine .inl (aS (ai tok mixed [5] [] [(.bool b,H0)] (by kernel_rfl) fun C K hC hK=>?_));simp -implicitDefEqProofs [lnV];refine⟨hC _ _ _ _ (wcm (by simpa using hn) fun _ _ h=>h),hK _ _ ?_⟩;simp -dsimp[];exact hr2
theorem first_p1(R0:B)(b2 b3:B)(v1 v3 v4 v5 v6 v7 v8 v9 v10 v11 v12:V)(w:List UInt8)(ns:List Int)(hw:w=dM)(a:Int)(hn:ns=[a]):
  aq Tryz.prog 43 [.ptr 1 0,lnV w ns] [R0,B.cells [.int .i64 0,v1,.int .i64 0,v3,v4,v5,v6,v7,v8,v9,v10,v11,v12,.int .u32 0,.int .u32 0,.int .i64 0,.bool false],b2,b3,LnB w ns,LnB w ns] fun r H'=>r = .bool true∧∃G,H'=[R0,B.cells [.int .i64 1,v1,.int .i64 a,v3,v4,v5,v6,v7,v8,v9,v10,v11,v12,.int .u32 0,.int .u32 0,.int .i64 1,.bool false],b2,b3]++G:=by
 subst hw;subst hn;have hh:=cq dM [a] 1;rw[decide_eq_true (show([a]:List Int).length=1 from rfl)]at hh;simp only[lnV,dM,kj,lD,aD]at hh;refine aB tok Tryz.func43 rfl rfl ?_;refine wx ?_;simp -dsimp[Tryz.f43,kQ,LnB,lnV,dM,aC,aD];refine cPx (hh) (by simp) ?_;simp -dsimp[]
theorem first_p2(R0:B)(b2 b3 b4:B)(v1 v3 v4 v5 v6 v7 v8 v9 v10 v11 v12:V)(w:List UInt8)(ns:List Int)(hw:w=dG)(hn:ns=[]):
  aq Tryz.prog 43 [.ptr 1 0,lnV w ns] [R0,B.cells [.int .i64 0,v1,.int .i64 0,v3,v4,v5,v6,v7,v8,v9,v10,v11,v12,.int .u32 0,.int .u32 0,.int .i64 0,.bool false],b2,b3,b4,LnB w ns,LnB w ns] fun r H'=>r = .bool true∧∃G,H'=[R0,B.cells [.int .i64 2,v1,.int .i64 0,v3,v4,v5,v6,v7,v8,v9,v10,v11,v12,.int .u32 0,.int .u32 0,.int .i64 1,.bool false],b2,b3,b4]++G:=by
 subst hw;subst hn;have n1:¬(bs [99,104,97,110,103,101,115]).toList=(bs [100,101,108,101,116,101,115]).toList:=ae (by decide);have hh:=cq dG [] 0;rw[decide_eq_true (show([]:List Int).length=0 from rfl)]at hh;simp only[lnV,dG,lD]at hh;refine aB tok Tryz.func43 rfl rfl ?_;refine wx ?_;simp -dsimp[Tryz.f43,kQ,LnB,lnV,dG,aC,n1];refine cPx (hh) (by simp) ?_;simp -dsimp[]
theorem first_p3(R0:B)(b2 b3:B)(v1 v3 v4 v5 v6 v7 v8 v9 v10 v11 v12:V)(w:List UInt8)(ns:List Int)(hw:w=cC)(hn:ns=[]):
  aq Tryz.prog 43 [.ptr 1 0,lnV w ns] [R0,B.cells [.int .i64 0,v1,.int .i64 0,v3,v4,v5,v6,v7,v8,v9,v10,v11,v12,.int .u32 0,.int .u32 0,.int .i64 0,.bool false],b2,b3,LnB w ns,LnB w ns] fun r H'=>r = .bool true∧∃G,H'=[R0,B.cells [.int .i64 3,v1,.int .i64 0,v3,v4,v5,v6,v7,v8,v9,v10,v11,v12,.int .u32 0,.int .u32 0,.int .i64 1,.bool false],b2,b3]++G:=by
 subst hw;subst hn;have n1:¬(bs [107,101,121,115]).toList=(bs [100,101,108,101,116,101,115]).toList:=ae (by decide);have n2:¬(bs [107,101,121,115]).toList=(bs [99,104,97,110,103,101,115]).toList:=ae (by decide);have hh:=cq cC [] 0;rw[decide_eq_true (show([]:List Int).length=0 from rfl)]at hh;simp only[lnV,cC,lD]at hh;refine aB tok Tryz.func43 rfl rfl ?_;refine wx ?_;simp -dsimp[Tryz.f43,kQ,LnB,lnV,cC,aC,n1,n2];refine cPx (hh) (by simp) ?_;simp -dsimp[]
theorem first_p4(R0:B)(b2:B)(v1 v3 v4 v5 v6 v7 v8 v9 v10 v11 v12:V)(w:List UInt8)(ns:List Int)(hw:w=bD)(a b:Nat)(hn:ns=[(a:Int),(b:Int)])(ha:isS a)(hb:isS b):
  aq Tryz.prog 43 [.ptr 1 0,lnV w ns] [R0,B.cells [.int .i64 0,v1,.int .i64 0,v3,v4,v5,v6,v7,v8,v9,v10,v11,v12,.int .u32 0,.int .u32 0,.int .i64 0,.bool false],b2,LnB w ns,LnB w ns] fun r H'=>r = .bool true∧∃G,H'=[R0,B.cells [.int .i64 4,v1,.int .i64 0,v3,v4,v5,v6,v7,v8,v9,v10,v11,v12,.int .u32 (a:Int),.int .u32 (b:Int),.int .i64 1,.bool false],b2]++G:=by
 subst hw;subst hn;have n1:¬(bs [112,114,111,111,102]).toList=(bs [100,101,108,101,116,101,115]).toList:=ae (by decide);have n2:¬(bs [112,114,111,111,102]).toList=(bs [99,104,97,110,103,101,115]).toList:=ae (by decide);have n3:¬(bs [112,114,111,111,102]).toList=(bs [107,101,121,115]).toList:=ae (by decide);have hh:=cq bD [(a:Int),(b:Int)] 2;rw[decide_eq_true (show([(a:Int),(b:Int)]:List Int).length=2 from rfl)]at hh;have hse:=jR bD [(a:Int),(b:Int)] 0 2 (by omega) (by simp) (by simp);simp only[lnV,bD,kj,lD,aD]at hh hse;simp only[ll,ly,ky,mF,mR,mD,decide_eq_true ha,decide_eq_true hb,Bool.not_true,Bool.or_self,Bool.not_false]at hse;refine aB tok Tryz.func43 rfl rfl ?_;refine wx ?_;simp -dsimp[Tryz.f43,kQ,LnB,lnV,bD,aC,aD,n1,n2,n3];refine cPx (hh) (by simp) ?_;simp -dsimp[];refine cPx (hse) (by simp) ?_;simp -dsimp[];refine aS (ai tok mixed [16,20] [(1,[1]),(6,[1]),(11,[1]),(12,[1])] [] (by kernel_rfl) fun C K hC hK=>?_);simp -implicitDefEqProofs [dD ha,dD hb];refine hK _ _ ?_;simp -dsimp[]
theorem first_p0(R0:B)(v1 v3 v4 v5 v6 v7 v8 v9 v10 v11 v12:V)(w:List UInt8)(ns:List Int)(hl:ns.length≤100000)(hf:ac w ns=none):
  aq Tryz.prog 43 [.ptr 1 0,lnV w ns] [R0,B.cells [.int .i64 0,v1,.int .i64 0,v3,v4,v5,v6,v7,v8,v9,v10,v11,v12,.int .u32 0,.int .u32 0,.int .i64 0,.bool false],LnB w ns,LnB w ns] fun r H'=>r = .bool false∧∃G,H'=R0::G:=by
 by_cases h1:w=dM
 ·subst h1
  have hn:¬ns.length=1:=fun h=>by
   obtain⟨a,rfl⟩:=dt h;unfold ac at hf;rw[if_pos ⟨rfl,rfl⟩]at hf;cases hf
  have hh:=cq dM ns 1;rw[decide_eq_false hn]at hh;simp only[lnV,dM]at hh;have n1:¬(bs [100,101,108,101,116,101,115]).toList=(bs [99,104,97,110,103,101,115]).toList:=ae (by decide);have n2:¬(bs [100,101,108,101,116,101,115]).toList=(bs [107,101,121,115]).toList:=ae (by decide);have n3:¬(bs [100,101,108,101,116,101,115]).toList=(bs [112,114,111,111,102]).toList:=ae (by decide);refine aB tok Tryz.func43 rfl rfl ?_;refine wx ?_;simp -dsimp[Tryz.f43,kQ,LnB,lnV,dM,aC,n1,n2,n3];refine cPx (hh) (by simp) ?_;simp -dsimp[aC,n1,n2,n3]
 have m1:¬(bs w).toList=(bs [100,101,108,101,116,101,115]).toList:=ae h1;by_cases h2:w=dG
 ·subst h2;have m1:¬(bs [99,104,97,110,103,101,115]).toList=(bs [100,101,108,101,116,101,115]).toList:=m1
  have hn:¬ns.length=0:=fun h=>by rw[jv,if_pos h]at hf;cases hf
  have hh:=cq dG ns 0;rw[decide_eq_false hn]at hh;simp only[lnV,dG]at hh;have n1:¬(bs [99,104,97,110,103,101,115]).toList=(bs [107,101,121,115]).toList:=ae (by decide);have n2:¬(bs [99,104,97,110,103,101,115]).toList=(bs [112,114,111,111,102]).toList:=ae (by decide);refine aB tok Tryz.func43 rfl rfl ?_;refine wx ?_;simp -dsimp[Tryz.f43,kQ,LnB,lnV,dG,aC,m1,n1,n2];refine cPx (hh) (by simp) ?_;simp -dsimp[aC,n1,n2]
 have m2:¬(bs w).toList=(bs [99,104,97,110,103,101,115]).toList:=ae h2;by_cases h3:w=cC
 ·subst h3;have m1:¬(bs [107,101,121,115]).toList=(bs [100,101,108,101,116,101,115]).toList:=m1;have m2:¬(bs [107,101,121,115]).toList=(bs [99,104,97,110,103,101,115]).toList:=m2
  have hn:¬ns.length=0:=fun h=>by rw[iq,if_pos h]at hf;cases hf
  have hh:=cq cC ns 0;rw[decide_eq_false hn]at hh;simp only[lnV,cC]at hh;have n1:¬(bs [107,101,121,115]).toList=(bs [112,114,111,111,102]).toList:=ae (by decide);refine aB tok Tryz.func43 rfl rfl ?_;refine wx ?_;simp -dsimp[Tryz.f43,kQ,LnB,lnV,cC,aC,m1,m2,n1];refine cPx (hh) (by simp) ?_;simp -dsimp[aC,n1]
 have m3:¬(bs w).toList=(bs [107,101,121,115]).toList:=ae h3;by_cases h4:w=bD
 case neg =>
  have m4:¬(bs w).toList=(bs [112,114,111,111,102]).toList:=ae h4;refine aB tok Tryz.func43 rfl rfl ?_;refine wx ?_;simp -dsimp[Tryz.f43,kQ,LnB,lnV,aC,m1,m2,m3,m4]
 subst h4;have m1:¬(bs [112,114,111,111,102]).toList=(bs [100,101,108,101,116,101,115]).toList:=m1;have m2:¬(bs [112,114,111,111,102]).toList=(bs [99,104,97,110,103,101,115]).toList:=m2;have m3:¬(bs [112,114,111,111,102]).toList=(bs [107,101,121,115]).toList:=m3;rw[gv]at hf;have hh:=cq bD ns 2;by_cases hn:ns.length=2
 case neg =>
  rw[decide_eq_false hn]at hh;simp only[lnV,bD]at hh;refine aB tok Tryz.func43 rfl rfl ?_;refine wx ?_;simp -dsimp[Tryz.f43,kQ,LnB,lnV,bD,aC,m1,m2,m3];refine cPx (hh) (by simp) ?_;simp -dsimp[]
 obtain⟨a,b,rfl⟩:=jP hn;rw[decide_eq_true hn]at hh;have hse:=jR bD [a,b] 0 2 (by omega) (by simp) (by simp)
 have hab:(!decide (isS a)||!decide (isS b))=true:=by
  by_cases ha:isS a
  ·by_cases hb:isS b
   ·rw[if_pos ⟨hn,ha,hb⟩]at hf;cases hf
   ·simp[hb]
  ·simp[ha]
 simp only[lnV,bD,kj,lD,aD]at hh hse;simp only[ll,ly,ky,mF,mR,mD,hab,Bool.not_true]at hse;refine aB tok Tryz.func43 rfl rfl ?_;refine wx ?_;simp -dsimp[Tryz.f43,kQ,LnB,lnV,bD,aC,aD,m1,m2,m3];refine cPx (hh) (by simp) ?_;simp -dsimp[];refine cPx (hse) (by simp) ?_;simp -dsimp[]
theorem next_d(R0:B)(c0 c1 c2 c3 c4 c5 c6 c7 c8 c9 c10 c11 c12 c13 c14 c15:V)(R:List B)(w:List UInt8)(ns:List Int):
  aq Tryz.prog 21 [.ptr 1 0,lnV w ns] (R0::B.cells [c0,c1,c2,c3,c4,c5,c6,c7,c8,c9,c10,c11,c12,c13,c14,c15,.bool true]::R) fun r H'=>r = .bool false∧∃G,H'=R0::G:=by
 refine aB tok Tryz.func21 rfl rfl ?_;refine wx ?_;simp -dsimp[Tryz.f21,kQ,lnV]
def kP(R0:B)(c:Cert)(st:Nat)(w:List UInt8)(ns:List Int)(r:V)(H':List B):Prop :=
 if w=aT∧ns.length=0 then r = .bool true∧∃G,H'=cV R0 c.w c.del c.prf (st+1) true++G else Pd1R R0 (ad c st w ns) r H'
theorem next_1(R0:B)(hR0:∀n,rbB n R0)(c:Cert)(hk:c.k=1)(st:Nat)(hst:st≤2)(w:List UInt8)(ns:List Int)(hl:ns.length≤100000)(h1:c.del.length≤100000)(h2:c.prf.length≤100000):
  aq Tryz.prog 21 [.ptr 1 0,lnV w ns] (cV R0 c.w c.del c.prf (st+1) false++[LnB w ns]) (kP R0 c st w ns):=by
 have hd:=deletes_c R0 hR0 c hk st hst w ns hl h1 h2
 have hs:¬((st:Int)+1=0):=by omega
 by_cases hw:w=aT
 ·have hh:=cq w ns 0;simp only[lnV]at hh;by_cases hn:ns.length=0
  ·have e:kP R0 c st w ns=fun r H'=>r = .bool true∧∃G,H'=cV R0 c.w c.del c.prf (st+1) true++G:=by
    funext r H';unfold kP;rw[if_pos ⟨hw,hn⟩]
   rw[e,hw];rw[hw,decide_eq_true hn]at hh;simp only[aT]at hh;refine aB tok Tryz.func21 rfl rfl ?_;refine wx ?_;simp -dsimp[Tryz.f21,kQ,cV,LnB,lnV,aT,aC,hs];refine cPx (hh) (by simp) ?_;simp -dsimp[];exact⟨_,rfl⟩
  ·have e:kP R0 c st w ns=Pd1R R0 (ad c st w ns):=by
    funext r H';unfold kP;rw[if_neg (fun h=>hn h.2)]
   rw[e];obtain⟨O,hO⟩:∃O,O=ad c st w ns:=⟨_,rfl⟩;rw[←hO]at hd ⊢;rw[hw]at hd hh ⊢;rw[decide_eq_false hn]at hh;simp only[aT]at hh;simp only[cV,LnB,lnV,aT,kf,kX]at hd;refine aB tok Tryz.func21 rfl rfl ?_;refine wx ?_;simp -dsimp[Tryz.f21,kQ,cV,LnB,lnV,aT,aC,hs];refine cPx (hh) (by simp) ?_;simp -dsimp[];refine wcm (by simpa using hd) ?_;intro r H' h;simp -dsimp[];exact h
 ·have e:kP R0 c st w ns=Pd1R R0 (ad c st w ns):=by
   funext r H';unfold kP;rw[if_neg (fun h=>hw h.1)]
  rw[e];have n1:¬(bs w).toList=(bs [101,110,100]).toList:=ae hw;obtain⟨O,hO⟩:∃O,O=ad c st w ns:=⟨_,rfl⟩;rw[←hO]at hd ⊢;simp only[cV,LnB,lnV,kf,kX]at hd;refine aB tok Tryz.func21 rfl rfl ?_;refine wx ?_;simp -dsimp[Tryz.f21,kQ,cV,LnB,lnV,aC,n1,hs];refine wcm (by simpa using hd) ?_;intro r H' h;simp -dsimp[];exact h
def kO(R0:B)(c:Cert)(st:Nat)(w:List UInt8)(ns:List Int)(r:V)(H':List B):Prop :=
 if w=aT∧ns.length=0 then r = .bool true∧∃G,H'=cG R0 c.cells c.cores c.upr (st+1) true++G else Pd2R R0 (ad c st w ns) r H'
theorem next_2(R0:B)(hR0:∀n,rbB n R0)(c:Cert)(hk:c.k=2)(st:Nat)(hst:st≤2)(w:List UInt8)(ns:List Int)(hl:ns.length≤100000)(h1:c.cells.length≤100000)(h2:c.cores.length≤100000)(h3:c.upr.length≤100000):
  aq Tryz.prog 21 [.ptr 1 0,lnV w ns] (cG R0 c.cells c.cores c.upr (st+1) false++[LnB w ns]) (kO R0 c st w ns):=by
 have hd:=changes_c R0 hR0 c hk st hst w ns hl h1 h2 h3
 have hs:¬((st:Int)+1=0):=by omega
 by_cases hw:w=aT
 ·have hh:=cq w ns 0;simp only[lnV]at hh;by_cases hn:ns.length=0
  ·have e:kO R0 c st w ns=fun r H'=>r = .bool true∧∃G,H'=cG R0 c.cells c.cores c.upr (st+1) true++G:=by
    funext r H';unfold kO;rw[if_pos ⟨hw,hn⟩]
   rw[e,hw];rw[hw,decide_eq_true hn]at hh;simp only[aT]at hh;refine aB tok Tryz.func21 rfl rfl ?_;refine wx ?_;simp -dsimp[Tryz.f21,kQ,cG,LnB,lnV,aT,aC,hs];refine cPx (hh) (by simp) ?_;simp -dsimp[];exact⟨_,rfl⟩
  ·have e:kO R0 c st w ns=Pd2R R0 (ad c st w ns):=by
    funext r H';unfold kO;rw[if_neg (fun h=>hn h.2)]
   rw[e];obtain⟨O,hO⟩:∃O,O=ad c st w ns:=⟨_,rfl⟩;rw[←hO]at hd ⊢;rw[hw]at hd hh ⊢;rw[decide_eq_false hn]at hh;simp only[aT]at hh;simp only[cG,LnB,lnV,aT,kf,kX]at hd;refine aB tok Tryz.func21 rfl rfl ?_;refine wx ?_;simp -dsimp[Tryz.f21,kQ,cG,LnB,lnV,aT,aC,hs];refine cPx (hh) (by simp) ?_;simp -dsimp[];refine wcm (by simpa using hd) ?_;intro r H' h;simp -dsimp[];exact h
 ·have e:kO R0 c st w ns=Pd2R R0 (ad c st w ns):=by
   funext r H';unfold kO;rw[if_neg (fun h=>hw h.1)]
  rw[e];have n1:¬(bs w).toList=(bs [101,110,100]).toList:=ae hw;obtain⟨O,hO⟩:∃O,O=ad c st w ns:=⟨_,rfl⟩;rw[←hO]at hd ⊢;simp only[cG,LnB,lnV,kf,kX]at hd;refine aB tok Tryz.func21 rfl rfl ?_;refine wx ?_;simp -dsimp[Tryz.f21,kQ,cG,LnB,lnV,aC,n1,hs];refine wcm (by simpa using hd) ?_;intro r H' h;simp -dsimp[];exact h
def kN(R0:B)(c:Cert)(st:Nat)(w:List UInt8)(ns:List Int)(r:V)(H':List B):Prop :=
 if w=aT∧ns.length=0 then r = .bool true∧∃G,H'=dH R0 c.sets c.prs (st+1) true++G else Pd3R R0 (ad c st w ns) r H'
theorem next_3(R0:B)(hR0:∀n,rbB n R0)(c:Cert)(hk:c.k=3)(st:Nat)(hst:st≤1)(w:List UInt8)(ns:List Int)(hl:ns.length≤100000)(h1:c.sets.length≤100000)(h2:c.prs.length≤100000):
  aq Tryz.prog 21 [.ptr 1 0,lnV w ns] (dH R0 c.sets c.prs (st+1) false++[LnB w ns]) (kN R0 c st w ns):=by
 have hd:=keys_c R0 c hk st hst w ns hl h1 h2
 have hs:¬((st:Int)+1=0):=by omega
 by_cases hw:w=aT
 ·have hh:=cq w ns 0;simp only[lnV]at hh;by_cases hn:ns.length=0
  ·have e:kN R0 c st w ns=fun r H'=>r = .bool true∧∃G,H'=dH R0 c.sets c.prs (st+1) true++G:=by
    funext r H';unfold kN;rw[if_pos ⟨hw,hn⟩]
   rw[e,hw];rw[hw,decide_eq_true hn]at hh;simp only[aT]at hh;refine aB tok Tryz.func21 rfl rfl ?_;refine wx ?_;simp -dsimp[Tryz.f21,kQ,dH,LnB,lnV,aT,aC,hs];refine cPx (hh) (by simp) ?_;simp -dsimp[];exact⟨_,rfl⟩
  ·have e:kN R0 c st w ns=Pd3R R0 (ad c st w ns):=by
    funext r H';unfold kN;rw[if_neg (fun h=>hn h.2)]
   rw[e];obtain⟨O,hO⟩:∃O,O=ad c st w ns:=⟨_,rfl⟩;rw[←hO]at hd ⊢;rw[hw]at hd hh ⊢;rw[decide_eq_false hn]at hh;simp only[aT]at hh;simp only[dH,LnB,lnV,aT,kf,kX]at hd;refine aB tok Tryz.func21 rfl rfl ?_;refine wx ?_;simp -dsimp[Tryz.f21,kQ,dH,LnB,lnV,aT,aC,hs];refine cPx (hh) (by simp) ?_;simp -dsimp[];refine wcm (by simpa using hd) ?_;intro r H' h;simp -dsimp[];exact h
 ·have e:kN R0 c st w ns=Pd3R R0 (ad c st w ns):=by
   funext r H';unfold kN;rw[if_neg (fun h=>hw h.1)]
  rw[e];have n1:¬(bs w).toList=(bs [101,110,100]).toList:=ae hw;obtain⟨O,hO⟩:∃O,O=ad c st w ns:=⟨_,rfl⟩;rw[←hO]at hd ⊢;simp only[dH,LnB,lnV,kf,kX]at hd;refine aB tok Tryz.func21 rfl rfl ?_;refine wx ?_;simp -dsimp[Tryz.f21,kQ,dH,LnB,lnV,aC,n1,hs];refine wcm (by simpa using hd) ?_;intro r H' h;simp -dsimp[];exact h
def kM(R0:B)(c:Cert)(st:Nat)(w:List UInt8)(ns:List Int)(r:V)(H':List B):Prop :=
 if w=aT∧ns.length=0 then r = .bool true∧∃G,H'=eD R0 c.steps c.g (st+1) true++G else Pd4R R0 (ad c st w ns) r H'
theorem next_4(R0:B)(hR0:∀n,rbB n R0)(c:Cert)(hk:c.k=4)(w:List UInt8)(ns:List Int)(hl:ns.length≤100000)(h1:c.steps.length≤100000):
  aq Tryz.prog 21 [.ptr 1 0,lnV w ns] (eD R0 c.steps c.g 1 false++[LnB w ns]) (kM R0 c 0 w ns):=by
 have hd:=steps_c R0 hR0 c hk w ns hl h1;by_cases hw:w=aT
 ·have hh:=cq w ns 0;simp only[lnV]at hh;by_cases hn:ns.length=0
  ·have e:kM R0 c 0 w ns=fun r H'=>r = .bool true∧∃G,H'=eD R0 c.steps c.g (0+1) true++G:=by
    funext r H';unfold kM;rw[if_pos ⟨hw,hn⟩]
   rw[e,hw];rw[hw,decide_eq_true hn]at hh;simp only[aT]at hh;refine aB tok Tryz.func21 rfl rfl ?_;refine wx ?_;simp -dsimp[Tryz.f21,kQ,eD,LnB,lnV,aT,aC];refine cPx (hh) (by simp) ?_;simp -dsimp[];exact⟨_,rfl⟩
  ·have e:kM R0 c 0 w ns=Pd4R R0 (ad c 0 w ns):=by
    funext r H';unfold kM;rw[if_neg (fun h=>hn h.2)]
   rw[e];obtain⟨O,hO⟩:∃O,O=ad c 0 w ns:=⟨_,rfl⟩;rw[←hO]at hd ⊢;rw[hw]at hd hh ⊢;rw[decide_eq_false hn]at hh;simp only[aT]at hh;simp only[eD,LnB,lnV,aT,kf,kX]at hd;refine aB tok Tryz.func21 rfl rfl ?_;refine wx ?_;simp -dsimp[Tryz.f21,kQ,eD,LnB,lnV,aT,aC];refine cPx (hh) (by simp) ?_;simp -dsimp[];refine wcm (by simpa using hd) ?_;intro r H' h;simp -dsimp[];exact h
 ·have e:kM R0 c 0 w ns=Pd4R R0 (ad c 0 w ns):=by
   funext r H';unfold kM;rw[if_neg (fun h=>hw h.1)]
  rw[e];have n1:¬(bs w).toList=(bs [101,110,100]).toList:=ae hw;obtain⟨O,hO⟩:∃O,O=ad c 0 w ns:=⟨_,rfl⟩;rw[←hO]at hd ⊢;simp only[eD,LnB,lnV,kf,kX]at hd;refine aB tok Tryz.func21 rfl rfl ?_;refine wx ?_;simp -dsimp[Tryz.f21,kQ,eD,LnB,lnV,aC,n1];refine wcm (by simpa using hd) ?_;intro r H' h;simp -dsimp[];exact h
def kC(c:Cert):V :=
 if c.k=1 then .agg [.int .i64 1,.lst 1 false (c.del.map aD),.int .i64 c.w,.lst 2 false (c.prf.map aE),.nilS,.str aX,.nilS,.nilS,.nilS,.nilS,.nilS,.nilS,.nilS,.int .u32 0,.int .u32 0]
 else if c.k=2 then .agg [.int .i64 2,.nilS,.int .i64 0,.nilS,.lst 2 false (c.cells.map aK),.str aX,.nilS,.nilS,.lst 1 false (c.cores.map aJ),.lst 2 false (c.upr.map aE),.nilS,.nilS,.nilS,.int .u32 0,.int .u32 0]
 else if c.k=3 then .agg [.int .i64 3,.nilS,.int .i64 0,.nilS,.nilS,.str aX,.nilS,.nilS,.nilS,.nilS,.lst 1 false (c.sets.map ax),.lst 3 false (c.prs.map aQ),.nilS,.int .u32 0,.int .u32 0]
 else if c.k=4 then .agg [.int .i64 4,.nilS,.int .i64 0,.nilS,.nilS,.str aX,.nilS,.nilS,.nilS,.nilS,.nilS,.nilS,.lst 4 false (c.steps.map aL),.int .u32 (c.g.l:Int),.int .u32 (c.g.r:Int)]
 else aH 0 0 0 0
def psV:Option Cert×Nat→V
 | (some c,n)=>.tup [kC c,.int .i64 (n:Nat),.int .i64 0]
 | (none,n)=>.tup [aH 0 0 0 0,.int .i64 (n:Nat),.int .i64 2]
theorem eX(i:Nat)(c:Cert)(st:Nat)(x y:List UInt8)(r:List (List UInt8)):goC i c st (x::y::r)=match rdL x with
  | none=>(none,i+1)
  | some (w,ns)=>
   if 0<i∧w=aT∧ns.length=0 then(if r=[]∧y=[] then(some c,0) else(none,i+2))
   else match (if i=0 then(ac w ns).map (fun c=>(c,0)) else ad c st w ns) with
    | none=>(none,i+1)
    | some (c',st')=>goC (i+1) c' st' (y::r):=by
 rfl
theorem addC_k{c c':Cert}{st st':Nat}{w:List UInt8}{ns:List Int}(h:ad c st w ns=some (c',st')):c'.k=c.k∧st'≤2:=by
 unfold ad at h
 repeat' split at h
 all_goals first
  | (cases h;exact⟨rfl,by omega⟩)
  | (cases h;done)
def eF(c:Cert)(n:Nat):Prop:=c.del.length≤n∧c.prf.length≤n∧c.cells.length≤n∧c.cores.length≤n∧c.upr.length≤n∧c.sets.length≤n∧c.prs.length≤n∧c.steps.length≤n
theorem addC_len{c c':Cert}{st st' n:Nat}{w:List UInt8}{ns:List Int}(h:ad c st w ns=some (c',st'))(hl:eF c n):eF c' (n+1):=by
 obtain⟨a1,a2,a3,a4,a5,a6,a7,a8⟩:=hl;unfold ad at h
 repeat' split at h
 all_goals first
  | (cases h;refine⟨?_,?_,?_,?_,?_,?_,?_,?_⟩<;>simp<;>omega)
  | (cases h;done)
theorem addC_g{c c':Cert}{st st':Nat}{w:List UInt8}{ns:List Int}(h:ad c st w ns=some (c',st'))(hk:c.k=4):st'=0:=by
 rw[kI hk]at h;split at h
 ·cases h;rfl
 ·cases h
theorem addC_3s{c c':Cert}{st st':Nat}{w:List UInt8}{ns:List Int}(h:ad c st w ns=some (c',st'))(hk:c.k=3):st'≤1:=by
 rw[kJ hk]at h;split at h
 ·cases h;omega
 ·split at h
  ·cases h;omega
  ·cases h
theorem dN{x w:List UInt8}{ns:List Int}(h:rdL x=some (w,ns)):ns.length≤x.length:=by
 obtain⟨e,_⟩:=rd_inv h;rw[e];unfold aG;rw[kT]
 have:∀l:List Int,l.length≤(du l).length:=by
  intro l
  induction l with
  | nil=>simp
  | cons a l ih=>have e:du (a::l)=(32::itoa a)++du l:=rfl;rw[e];simp;omega
 have:=this ns;omega
theorem eqd64(x y:Int):eqD T 9999 2 (.int .i64 x) (.int .i64 y)=some (x == y):=by simp[eqD]
theorem eqdI(x y:Int):eqD T 9999 3 (.int .i64 x) (.int .i64 y)=some (x == y):=by simp[eqD]
theorem eqdS(x y:Int):eqD T 9999 39 (.int .u32 x) (.int .u32 y)=some (x == y):=by simp[eqD]
theorem eqCel(H:List B)(a b:Int):iA T H 133 (.agg [.int .i64 a,.int .i64 b]) (.agg [.int .i64 a,.int .i64 b])=some true:=by
 simp only[iA];rw[show(10000:Nat)=9999+1 from rfl,eqD];simp only[T_133];simp[if_true,eqFs,ew,T_2,T_3,bL,eqd64,eqdI]
theorem eqCsh(H:List B)(a b:Int):iA T H 139 (.agg [.int .i64 a,.int .i64 b]) (.agg [.int .i64 a,.int .i64 b])=some true:=by
 simp only[iA];rw[show(10000:Nat)=9999+1 from rfl,eqD];simp only[T_139];simp[if_true,eqFs,ew,T_2,T_3,bL,eqd64,eqdI]
theorem eqFd(H:List B)(a b:Int):iA T H 41 (.agg [.int .u32 a,.int .u32 b]) (.agg [.int .u32 a,.int .u32 b])=some true:=by
 simp only[iA];rw[show(10000:Nat)=9999+1 from rfl,eqD];simp only[T_41];simp[if_true,eqFs,ew,T_39,bL,eqdS]
theorem eqWi(H:List B)(s a b:Int):iA T H 135 (.agg [.int .u32 s,.int .i64 a,.int .i64 b]) (.agg [.int .u32 s,.int .i64 a,.int .i64 b])=some true:=by
 simp only[iA];rw[show(10000:Nat)=9999+1 from rfl,eqD];simp only[T_135];simp[if_true,eqFs,ew,T_39,T_2,bL,eqdS,eqd64]
theorem idsS(l:List Int)(hl:l.length≤1000000):ab Tryz.prog 26 [.lst 1 false (l.map aD),.lst 1 false (l.map aD)] fun r=>r = .bool true:=by
 refine sPx Tryz.func26 rfl rfl ?_;simp -dsimp[Tryz.f26,kQ];refine aS (W_loopM 26 0x3fff830 (by simp[mB]<;>rfl) (σ:=Nat) (fun i=>i≤l.length) (fun i=>l.length-i) (fun i=>[(5,.int .i64 i)]) (fun _=>[]) 0 (by omega) (by simp) rfl (by simp) ?_);rintro i h1 N Q hN hQ;by_cases hb:i<l.length
 ·refine wx ?_;simp -dsimp[aD,hb,aO i (by omega)];refine .inr ⟨cj (by kernel_rfl),?_⟩;refine hN (i+1) _ _ (by omega) (by omega) ?_ ⟨[],?_⟩ ?_ ?_<;>simp[or_imp,forall_and,L1,aD]
 ·refine wx ?_;simp -dsimp[hb];refine hQ _ _ _ ?_;simp -dsimp[]
theorem intsS(l:List Int)(hl:l.length≤1000000):ab Tryz.prog 52 [.lst 1 false (l.map aD),.lst 1 false (l.map aD)] fun r=>r = .bool true:=by
 refine sPx Tryz.func52 rfl rfl ?_;simp -dsimp[Tryz.f52,kQ];refine aS (W_loopM 26 0x3fff830 (by simp[mB]<;>rfl) (σ:=Nat) (fun i=>i≤l.length) (fun i=>l.length-i) (fun i=>[(5,.int .i64 i)]) (fun _=>[]) 0 (by omega) (by simp) rfl (by simp) ?_);rintro i h1 N Q hN hQ;by_cases hb:i<l.length
 ·refine wx ?_;simp -dsimp[aD,hb,aO i (by omega)];refine .inr ⟨cj (by kernel_rfl),?_⟩;refine hN (i+1) _ _ (by omega) (by omega) ?_ ⟨[],?_⟩ ?_ ?_<;>simp[or_imp,forall_and,L1,aD]
 ·refine wx ?_;simp -dsimp[hb];refine hQ _ _ _ ?_;simp -dsimp[]
theorem setsS(l:List Nat)(hl:l.length≤1000000):ab Tryz.prog 29 [.lst 1 false (l.map ax),.lst 1 false (l.map ax)] fun r=>r = .bool true:=by
 refine sPx Tryz.func29 rfl rfl ?_;simp -dsimp[Tryz.f29,kQ];refine aS (W_loopM 26 0x3fff830 (by simp[mB]<;>rfl) (σ:=Nat) (fun i=>i≤l.length) (fun i=>l.length-i) (fun i=>[(5,.int .i64 i)]) (fun _=>[]) 0 (by omega) (by simp) rfl (by simp) ?_);rintro i h1 N Q hN hQ;by_cases hb:i<l.length
 ·refine wx ?_;simp -dsimp[ax,hb,aO i (by omega)];refine .inr ⟨cj (by kernel_rfl),?_⟩;refine hN (i+1) _ _ (by omega) (by omega) ?_ ⟨[],?_⟩ ?_ ?_<;>simp[or_imp,forall_and,L1,aD,ax]
 ·refine wx ?_;simp -dsimp[hb];refine hQ _ _ _ ?_;simp -dsimp[]
theorem cellsS(l:List Cel)(hl:l.length≤1000000):ab Tryz.prog 28 [aJ l,aJ l] fun r=>r = .bool true:=by
 refine sPx Tryz.func28 rfl rfl ?_;simp -dsimp[Tryz.f28,kQ,aJ];refine aS (W_loopM 26 0x3fff830 (by simp[mB]<;>rfl) (σ:=Nat) (fun i=>i≤l.length) (fun i=>l.length-i) (fun i=>[(5,.int .i64 i)]) (fun _=>[]) 0 (by omega) (by simp) rfl (by simp) ?_);rintro i h1 N Q hN hQ;by_cases hb:i<l.length
 ·refine wx ?_;simp -dsimp[aK,hb,eqCel,aO i (by omega)];refine .inr ⟨cj (by kernel_rfl),?_⟩;refine hN (i+1) _ _ (by omega) (by omega) ?_ ⟨[],?_⟩ ?_ ?_<;>simp[or_imp,forall_and,L1,aD,aK]
 ·refine wx ?_;simp -dsimp[hb];refine hQ _ _ _ ?_;simp -dsimp[]
theorem witsS(l:List Cpr)(hl:l.length≤1000000):ab Tryz.prog 30 [.lst 3 false (l.map aQ),.lst 3 false (l.map aQ)] fun r=>r = .bool true:=by
 refine sPx Tryz.func30 rfl rfl ?_;simp -dsimp[Tryz.f30,kQ];refine aS (W_loopM 26 0x3fff830 (by simp[mB]<;>rfl) (σ:=Nat) (fun i=>i≤l.length) (fun i=>l.length-i) (fun i=>[(5,.int .i64 i)]) (fun _=>[]) 0 (by omega) (by simp) rfl (by simp) ?_);rintro i h1 N Q hN hQ;by_cases hb:i<l.length
 ·refine wx ?_;simp -dsimp[aQ,hb,eqWi,aO i (by omega)];refine .inr ⟨cj (by kernel_rfl),?_⟩;refine hN (i+1) _ _ (by omega) (by omega) ?_ ⟨[],?_⟩ ?_ ?_<;>simp[or_imp,forall_and,L1,aD,aQ]
 ·refine wx ?_;simp -dsimp[hb];refine hQ _ _ _ ?_;simp -dsimp[]
section
def RdS(s:List UInt8)(k:Int)(i:Nat)(c:Cert)(st:Nat)(dn:Bool):Prop :=
 c.k=k∧eF c i∧st≤2∧(k=3→st≤1)∧(k=4→st=0)∧1≤i∧(dn=false→goC i c st ((spl 10 s).drop i)=bG s)∧(dn=true→bG s=if(spl 10 s).drop i=[[]] then(some c,0) else(none,i+1))
theorem dC{qs:List (List UInt8)}{z:List UInt8}{i:Nat}(h:i<qs.length):∃y r,(qs++[z]).drop i=qs[i]::y::r:=by
 have h1:(qs++[z]).drop i=(qs++[z])[i]'(by simp;omega)::(qs++[z]).drop (i+1):=lH _;rw[li h]at h1
 cases h2:(qs++[z]).drop (i+1) with
 | nil=>have:=congrArg List.length h2;simp at this;omega
 | cons y r=>exact⟨y,r,by rw[h1,h2]⟩
theorem drop_last(qs:List (List UInt8))(z:List UInt8):(qs++[z]).drop qs.length=[z]:=by simp
section
variable {s:List UInt8} {k:Int} {i:Nat} {c:Cert} {st:Nat} {dn:Bool} {qs:List (List UInt8)} {z w:List UInt8} {ns:List Int}
theorem ck(hps:spl 10 s=qs++[z])(h:RdS s k i c st true)(hi:i<qs.length):bG s=(none,i+1):=by
 obtain⟨y,r,e⟩:=dC (z:=z) hi;have h2:=h.2.2.2.2.2.2.2 rfl;rw[hps,e,if_neg (by simp)]at h2;exact h2
theorem dA(hps:spl 10 s=qs++[z])(h:RdS s k i c st dn)(hi:i<qs.length)(hr:rdL qs[i]=none):bG s=(none,i+1):=by
 cases dn with
 | true=>exact ck hps h hi
 | false =>
  obtain⟨y,r,e⟩:=dC (z:=z) hi;have h2:=h.2.2.2.2.2.2.1 rfl;rw[hps,e,eX,hr]at h2;exact h2.symm
theorem dd(hps:spl 10 s=qs++[z])(h:RdS s k i c st false)(hi:i<qs.length)(hr:rdL qs[i]=some (w,ns))(he:w=aT∧ns.length=0):RdS s k (i+1) c st true:=by
 obtain⟨a1,⟨l1,l2,l3,l4,l5,l6,l7,l8⟩,a3,a4,a5,a6,a7,_⟩:=h;refine⟨a1,⟨by omega,by omega,by omega,by omega,by omega,by omega,by omega,by omega⟩,a3,a4,a5,by omega,fun h=>(by cases h),fun _=>?_⟩;obtain⟨y,r,e⟩:=dC (z:=z) hi;have h2:=a7 rfl;rw[hps,e,eX,hr]at h2;simp only at h2;rw[if_pos ⟨by omega,he⟩]at h2
 have e2:(qs++[z]).drop (i+1)=y::r:=by rw[←mT,e];rfl
 rw[←h2,hps,e2];by_cases hc:r=[]∧y=[]
 ·rw[if_pos hc,if_pos (by rw[hc.1,hc.2])]
 ·rw[if_neg hc,if_neg (fun h=>by injection h with h1 h2;exact hc ⟨h2,h1⟩)]
theorem cR(hps:spl 10 s=qs++[z])(h:RdS s k i c st false)(hi:i<qs.length)(hr:rdL qs[i]=some (w,ns))(he:¬(w=aT∧ns.length=0))(ha:ad c st w ns=none):bG s=(none,i+1):=by
 obtain⟨a1,_,a3,a4,a5,a6,a7,_⟩:=h;obtain⟨y,r,e⟩:=dC (z:=z) hi;have h2:=a7 rfl;rw[hps,e,eX,hr]at h2;simp only at h2;rw[if_neg (fun h=>he h.2),if_neg (by omega),ha]at h2;exact h2.symm
theorem cS(hps:spl 10 s=qs++[z])(h:RdS s k i c st false)(hi:i<qs.length)(hr:rdL qs[i]=some (w,ns))(he:¬(w=aT∧ns.length=0)){c':Cert}{st':Nat}(ha:ad c st w ns=some (c',st')):RdS s k (i+1) c' st' false:=by
 obtain⟨a1,a2,a3,a4,a5,a6,a7,_⟩:=h;obtain⟨b1,b2⟩:=addC_k ha;refine⟨by rw[b1,a1],addC_len ha a2,b2,fun h3=>addC_3s ha (by rw[a1,h3]),fun h4=>addC_g ha (by rw[a1,h4]),by omega,fun _=>?_,fun h=>(by cases h)⟩;obtain⟨y,r,e⟩:=dC (z:=z) hi;have h2:=a7 rfl;rw[hps,e,eX,hr]at h2;simp only at h2;rw[if_neg (fun h=>he h.2),if_neg (by omega),ha]at h2
 have e2:(qs++[z]).drop (i+1)=y::r:=by rw[←mT,e];rfl
 rw[hps,e2];exact h2
theorem bp(hps:spl 10 s=qs++[z])(h:RdS s k qs.length c st dn):bG s=if dn=true∧z=[] then(some c,0) else(none,qs.length+1):=by
 obtain⟨a1,a2,a3,a4,a5,a6,a7,a8⟩:=h
 cases dn with
 | true =>
  have:=a8 rfl;rw[hps,drop_last]at this;rw[this];by_cases hz:z=[]
  ·rw[if_pos (by rw[hz]),if_pos ⟨rfl,hz⟩]
  ·rw[if_neg (fun h=>hz (by injection h)),if_neg (fun h=>hz h.2)]
 | false =>
  have:=a7 rfl;rw[hps,drop_last]at this;rw[if_neg (fun h=>by cases h.1)];exact this.symm
theorem par_one(hps:spl 10 s=[z]):bG s=(none,1):=by
 unfold bG;rw[hps];rfl
theorem par_none0{x:List UInt8}(hps:spl 10 s=x::qs++[z])(hr:rdL x=none):bG s=(none,1):=by
 obtain⟨y,r,e⟩:=dC (qs:=x::qs) (z:=z) (i:=0) (by simp);unfold bG;rw[ky]at e;rw[hps,e,eX];simp only[List.getElem_cons_zero];rw[hr]
theorem ja{x:List UInt8}(hps:spl 10 s=x::qs++[z])(hr:rdL x=some (w,ns))(hf:ac w ns=none):bG s=(none,1):=by
 obtain⟨y,r,e⟩:=dC (qs:=x::qs) (z:=z) (i:=0) (by simp);unfold bG;rw[ky]at e;rw[hps,e,eX];simp only[List.getElem_cons_zero];rw[hr];simp only;rw[if_neg (fun h=>by omega),if_pos trivial,hf];rfl
theorem gO{c:Cert}(hf:ac w ns=some c):eF c 0∧1≤c.k∧c.k≤4:=by
 unfold ac at hf
 repeat' split at hf
 all_goals first
  | (cases hf;refine⟨⟨?_,?_,?_,?_,?_,?_,?_,?_⟩,?_,?_⟩<;>simp[aF])
  | (cases hf;done)
theorem cZ{x:List UInt8}(hps:spl 10 s=x::qs++[z])(hr:rdL x=some (w,ns))(hf:ac w ns=some c)(hk:c.k=k):RdS s k 1 c 0 false:=by
 obtain⟨y,r,e⟩:=dC (qs:=x::qs) (z:=z) (i:=0) (by simp);obtain⟨⟨l1,l2,l3,l4,l5,l6,l7,l8⟩,_⟩:=gO hf;refine⟨hk,⟨by omega,by omega,by omega,by omega,by omega,by omega,by omega,by omega⟩,by omega,fun _=>by omega,fun _=>rfl,by omega,fun _=>?_,fun h=>(by cases h)⟩;unfold bG;rw[ky]at e;rw[hps,e,eX];simp only[List.getElem_cons_zero];rw[hr];simp only;rw[if_neg (fun h=>by omega),if_pos trivial,hf];rfl
theorem ff{c:Cert}(hf:ac w ns=some c)(hk:c.k=1):∃a,w=dM∧ns=[a]∧c = { aF with k:=1,w:=a }:=by
 unfold ac at hf;split at hf
 ·rename_i h;obtain⟨a,rfl⟩:=dt h.2;cases hf;exact⟨a,h.1,rfl,rfl⟩
 ·repeat' split at hf
  all_goals first
   | (cases hf;simp at hk;done)
   | (cases hf;done)
theorem ea{c:Cert}(hf:ac w ns=some c)(hk:c.k=2):w=dG∧ns=[]∧c = { aF with k:=2 }:=by
 unfold ac at hf;split at hf
 ·cases hf;simp at hk
 split at hf
 ·rename_i h;cases hf;exact⟨h.1,kr h.2,rfl⟩
 ·repeat' split at hf
  all_goals first
   | (cases hf;simp at hk;done)
   | (cases hf;done)
theorem eZ{c:Cert}(hf:ac w ns=some c)(hk:c.k=3):w=cC∧ns=[]∧c = { aF with k:=3 }:=by
 unfold ac at hf;split at hf
 ·cases hf;simp at hk
 split at hf
 ·cases hf;simp at hk
 split at hf
 ·rename_i h;cases hf;exact⟨h.1,kr h.2,rfl⟩
 ·repeat' split at hf
  all_goals first
   | (cases hf;simp at hk;done)
   | (cases hf;done)
theorem gu{c:Cert}(hf:ac w ns=some c)(hk:c.k=4):∃a b:Nat,w=bD∧ns=[(a:Int),(b:Int)]∧isS a∧isS b∧c = { aF with k:=4,g:=⟨a,b⟩ }:=by
 unfold ac at hf;split at hf
 ·cases hf;simp at hk
 split at hf
 ·cases hf;simp at hk
 split at hf
 ·cases hf;simp at hk
 split at hf
 ·rename_i h;obtain⟨h1,h2,h3,h4⟩:=h;obtain⟨a,b,rfl⟩:=jP h2;have e1:gN [a,b] 0=a:=rfl;have e2:gN [a,b] 1=b:=rfl;rw[e1]at h3 hf;rw[e2]at h4 hf;obtain⟨m,rfl⟩:=lZ h3.1;obtain⟨n,rfl⟩:=lZ h4.1;cases hf;exact⟨m,n,h1,rfl,h3,h4,rfl⟩
 ·cases hf
end
def ExL(H:List B)(cs ds:List V):Prop:=∀(i:Nat) c d,cs[i]?=some c→ds[i]?=some d→ExpX H c d
theorem bg(H:List B):ExL H [] []:=fun i c d h=>by simp at h
theorem aA{H:List B}{c d:V}{cs ds:List V}(h:ExpX H c d)(hs:ExL H cs ds):ExL H (c::cs) (d::ds):=fun i c1 d1 h1 h2=>by
 match i with
 | 0=>simp at h1 h2;subst h1;subst h2;exact h
 | n+1=>exact hs n c1 d1 (by simpa using h1) (by simpa using h2)
theorem cu(k:Nat):∀(i:Nat) (xs:List V),bq k [] i xs=xs
 | _,[]=>rfl
 | i,v::r=>by simp[bq,cu k (i+1) r]
theorem ce(k:Nat)(xs:List V):kL k xs (bq k [] 0 xs):=by
 rw[cu]
 induction xs with
 | nil=>trivial
 | cons x xs ih=>exact⟨.inl rfl,ih⟩
theorem encN_1{c:Cert}(h:c.k=1):kC c = .agg [.int .i64 1,.lst 1 false (c.del.map aD),.int .i64 c.w,.lst 2 false (c.prf.map aE),.nilS,.str aX,.nilS,.nilS,.nilS,.nilS,.nilS,.nilS,.nilS,.int .u32 0,.int .u32 0]:=by
 unfold kC;rw[if_pos h]
theorem encN_2{c:Cert}(h:c.k=2):kC c = .agg [.int .i64 2,.nilS,.int .i64 0,.nilS,.lst 2 false (c.cells.map aK),.str aX,.nilS,.nilS,.lst 1 false (c.cores.map aJ),.lst 2 false (c.upr.map aE),.nilS,.nilS,.nilS,.int .u32 0,.int .u32 0]:=by
 unfold kC;rw[if_neg (by omega),if_pos h]
theorem encN_3{c:Cert}(h:c.k=3):kC c = .agg [.int .i64 3,.nilS,.int .i64 0,.nilS,.nilS,.str aX,.nilS,.nilS,.nilS,.nilS,.lst 1 false (c.sets.map ax),.lst 3 false (c.prs.map aQ),.nilS,.int .u32 0,.int .u32 0]:=by
 unfold kC;rw[if_neg (by omega),if_neg (by omega),if_pos h]
theorem encN_4{c:Cert}(h:c.k=4):kC c = .agg [.int .i64 4,.nilS,.int .i64 0,.nilS,.nilS,.str aX,.nilS,.nilS,.nilS,.nilS,.nilS,.nilS,.lst 4 false (c.steps.map aL),.int .u32 (c.g.l:Int),.int .u32 (c.g.r:Int)]:=by
 unfold kC;rw[if_neg (by omega),if_neg (by omega),if_neg (by omega),if_pos h]
end
theorem add_1b(R0:B)(c:Cert)(hk:c.k=1)(st:Nat)(w:List UInt8)(f:Bool)(ns:List Int)(h1:c.del.length≤100000)(h2:c.prf.length≤100000)(hl:ns.length≤100000)(hw:¬w=bR)(hx:aW w ns=none):
  aq Tryz.prog 25 [.ptr 1 0,.int .i64 st,.str (bs w),.lst 1 f (ns.map aD)] (st1 R0 c.w c.del c.prf) (gB R0 (ad c st w ns)):=by
 have e:=gU (c:=c) hk (st:=st) (ns:=ns) (w:=w) (fun h=>hw h.1);have hnd:=dI w f ns hl;have n1:¬(bs w).toList=(bs [114,111,119]).toList:=ae hw;rw[e,hx];rw[hx]at hnd;simp only[ndV]at hnd;refine aB tok Tryz.func25 rfl rfl ?_;refine wx ?_;simp (maxSteps:=8000000) -implicitDefEqProofs -dsimp[Tryz.f25,kQ,st1,aC,n1];refine cPx (hnd) (by simp) ?_;simp -dsimp[];exact⟨rfl,_,rfl⟩
def st2(R0:B)(cells:List Cel)(cores:List (List Cel))(upr:List Cnd):List B :=
 [R0,B.cells [.int .i64 2,.nilS,.int .i64 0,.nilS,.buf 2 0 cells.length cells.length,.str aX,.nilS,.nilS,.buf 3 0 cores.length cores.length,.buf 4 0 upr.length upr.length,.nilS,.nilS,.nilS,.int .u32 0,.int .u32 0],B.buf 133 2 (cells.map aK) false,B.buf 27 1 (cores.map aJ) false,B.buf 108 2 (upr.map aE) false]
def fP(R0:B)(o:Option (Cert×Nat))(r:V)(H':List B):Prop:=match o with
 | some (c',st')=>r = .tup [.int .i64 (st':Nat),.bool true]∧∃G,H'=st2 R0 c'.cells c'.cores c'.upr++G
 | none=>r = .tup [.int .i64 0,.bool false]∧∃G,H'=R0::G
def st4(R0:B)(steps:List Cst)(g:Fd):List B :=
 [R0,B.cells [.int .i64 4,.nilS,.int .i64 0,.nilS,.nilS,.str aX,.nilS,.nilS,.nilS,.nilS,.nilS,.nilS,.buf 2 0 steps.length steps.length,.int .u32 (g.l:Int),.int .u32 (g.r:Int)],B.buf 110 4 (steps.map aL) false]
def iE(R0:B)(o:Option (Cert×Nat))(r:V)(H':List B):Prop:=match o with
 | some (c',st')=>r = .tup [.int .i64 (st':Nat),.bool true]∧∃G,H'=st4 R0 c'.steps c'.g++G
 | none=>r = .tup [.int .i64 0,.bool false]∧∃G,H'=R0::G
theorem nodeC_step(ns:List Int):aW bB ns=none:=by unfold aW;rw[if_neg (fun h=>by cases h.1),if_neg (fun h=>by cases h.1)]
theorem jq(ns:List Int){i:Nat}(h:i<ns.length):gN ns i=ns[i]:=by unfold gN;rw[List.getD_eq_getElem?_getD,kR h];rfl
theorem nx0_1(R0:B)(b2 b3:B)(v1 v3 v4 v5 v6 v7 v8 v9 v10 v11 v12:V)(w:List UInt8)(ns:List Int)(hw:w=dM)(a:Int)(hn:ns=[a]):
  aq Tryz.prog 21 [.ptr 1 0,lnV w ns] [R0,B.cells [.int .i64 0,v1,.int .i64 0,v3,v4,v5,v6,v7,v8,v9,v10,v11,v12,.int .u32 0,.int .u32 0,.int .i64 0,.bool false],b2,b3,LnB w ns] fun r H'=>r = .bool true∧∃G,H'=[R0,B.cells [.int .i64 1,v1,.int .i64 a,v3,v4,v5,v6,v7,v8,v9,v10,v11,v12,.int .u32 0,.int .u32 0,.int .i64 1,.bool false],b2,b3]++G:=by
 have hf2:=first_p1 R0 b2 b3 v1 v3 v4 v5 v6 v7 v8 v9 v10 v11 v12 w ns hw a hn;simp only[LnB,lnV]at hf2;refine aB tok Tryz.func21 rfl rfl ?_;refine wx ?_;simp -dsimp[Tryz.f21,kQ,LnB,lnV];refine wcm (by simpa using hf2) ?_;intro r H' h;simp -dsimp[];exact h
theorem nx0_2(R0:B)(b2 b3 b4:B)(v1 v3 v4 v5 v6 v7 v8 v9 v10 v11 v12:V)(w:List UInt8)(ns:List Int)(hw:w=dG)(hn:ns=[]):
  aq Tryz.prog 21 [.ptr 1 0,lnV w ns] [R0,B.cells [.int .i64 0,v1,.int .i64 0,v3,v4,v5,v6,v7,v8,v9,v10,v11,v12,.int .u32 0,.int .u32 0,.int .i64 0,.bool false],b2,b3,b4,LnB w ns] fun r H'=>r = .bool true∧∃G,H'=[R0,B.cells [.int .i64 2,v1,.int .i64 0,v3,v4,v5,v6,v7,v8,v9,v10,v11,v12,.int .u32 0,.int .u32 0,.int .i64 1,.bool false],b2,b3,b4]++G:=by
 have hf2:=first_p2 R0 b2 b3 b4 v1 v3 v4 v5 v6 v7 v8 v9 v10 v11 v12 w ns hw hn;simp only[LnB,lnV]at hf2;refine aB tok Tryz.func21 rfl rfl ?_;refine wx ?_;simp -dsimp[Tryz.f21,kQ,LnB,lnV];refine wcm (by simpa using hf2) ?_;intro r H' h;simp -dsimp[];exact h
theorem nx0_3(R0:B)(b2 b3:B)(v1 v3 v4 v5 v6 v7 v8 v9 v10 v11 v12:V)(w:List UInt8)(ns:List Int)(hw:w=cC)(hn:ns=[]):
  aq Tryz.prog 21 [.ptr 1 0,lnV w ns] [R0,B.cells [.int .i64 0,v1,.int .i64 0,v3,v4,v5,v6,v7,v8,v9,v10,v11,v12,.int .u32 0,.int .u32 0,.int .i64 0,.bool false],b2,b3,LnB w ns] fun r H'=>r = .bool true∧∃G,H'=[R0,B.cells [.int .i64 3,v1,.int .i64 0,v3,v4,v5,v6,v7,v8,v9,v10,v11,v12,.int .u32 0,.int .u32 0,.int .i64 1,.bool false],b2,b3]++G:=by
 have hf2:=first_p3 R0 b2 b3 v1 v3 v4 v5 v6 v7 v8 v9 v10 v11 v12 w ns hw hn;simp only[LnB,lnV]at hf2;refine aB tok Tryz.func21 rfl rfl ?_;refine wx ?_;simp -dsimp[Tryz.f21,kQ,LnB,lnV];refine wcm (by simpa using hf2) ?_;intro r H' h;simp -dsimp[];exact h
theorem nx0_4(R0:B)(b2:B)(v1 v3 v4 v5 v6 v7 v8 v9 v10 v11 v12:V)(w:List UInt8)(ns:List Int)(hw:w=bD)(a b:Nat)(hn:ns=[(a:Int),(b:Int)])(ha:isS a)(hb:isS b):
  aq Tryz.prog 21 [.ptr 1 0,lnV w ns] [R0,B.cells [.int .i64 0,v1,.int .i64 0,v3,v4,v5,v6,v7,v8,v9,v10,v11,v12,.int .u32 0,.int .u32 0,.int .i64 0,.bool false],b2,LnB w ns] fun r H'=>r = .bool true∧∃G,H'=[R0,B.cells [.int .i64 4,v1,.int .i64 0,v3,v4,v5,v6,v7,v8,v9,v10,v11,v12,.int .u32 (a:Int),.int .u32 (b:Int),.int .i64 1,.bool false],b2]++G:=by
 have hf2:=first_p4 R0 b2 v1 v3 v4 v5 v6 v7 v8 v9 v10 v11 v12 w ns hw a b hn ha hb;simp only[LnB,lnV]at hf2;refine aB tok Tryz.func21 rfl rfl ?_;refine wx ?_;simp -dsimp[Tryz.f21,kQ,LnB,lnV];refine wcm (by simpa using hf2) ?_;intro r H' h;simp -dsimp[];exact h
theorem nx0_0(R0:B)(v1 v3 v4 v5 v6 v7 v8 v9 v10 v11 v12:V)(w:List UInt8)(ns:List Int)(hl:ns.length≤100000)(hf:ac w ns=none):
  aq Tryz.prog 21 [.ptr 1 0,lnV w ns] [R0,B.cells [.int .i64 0,v1,.int .i64 0,v3,v4,v5,v6,v7,v8,v9,v10,v11,v12,.int .u32 0,.int .u32 0,.int .i64 0,.bool false],LnB w ns] fun r H'=>r = .bool false∧∃G,H'=R0::G:=by
 have hf2:=first_p0 R0 v1 v3 v4 v5 v6 v7 v8 v9 v10 v11 v12 w ns hl hf;simp only[LnB,lnV]at hf2;refine aB tok Tryz.func21 rfl rfl ?_;refine wx ?_;simp -dsimp[Tryz.f21,kQ,LnB,lnV];refine wcm (by simpa using hf2) ?_;intro r H' h;simp -dsimp[];exact h
end
end Go.Proofs.YtdhgchekdkjcpaaGreatDoor
