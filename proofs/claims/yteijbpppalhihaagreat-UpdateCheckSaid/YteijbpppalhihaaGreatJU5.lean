/- JU5: own texts of this seat, joined and shortened by pack.py: Q1, Q10, LayC, S5, Lo, Dn, GrN, CatN, CatC, DrK, Y5, Q4, Q5, H5, H4, H6, H7, Cl64, H13. -/
import Derived.Test.YteijbpppalhihaaGreatJU4
import Derived.Shelf.SlSortCmp.NoneTotal
import Derived.WalkKit
import Derived.Lib.Walk
import Derived.Lib.SliceRun
import Derived.Lib.AppendZerosOnto
import Derived.OwnWalk
import Derived.WalkSpells
import Derived.WalkLawsBesides
import Derived.Lib.Hide
import Derived.Maps.AppendAt
set_option linter.unusedVariables false
set_option linter.unusedSimpArgs false
set_option maxRecDepth 100000
set_option maxHeartbeats 64000000
namespace Go.Proofs.YteijbpppalhihaaGreat
section
open Go Go.AM
def au:List Cr→List Cr→Int
 | [],[]=>0
 | [],_::_=>-1
 | _::_,[]=>1
 | x::a,y::b=>if bj x y=0 then au a b else bj x y
theorem cmpLs_eq:∀a b,au a b=0↔a=b
 | [],[]=>by simp[au]
 | [],_::_=>by simp[au]
 | _::_,[]=>by simp[au]
 | x::a,y::b=>by
  rw[au];by_cases h:bj x y=0
  ·rw[if_pos h,cmpLs_eq a b,(fM x y).1 h];simp
  ·rw[if_neg h];exact⟨fun h2=>absurd h2 h,fun h2=>by cases h2;exact absurd ((fM x x).2 rfl) h⟩
def lP:List Cr→List Cr→Bool
 | [],[]=>false
 | [],_::_=>true
 | _::_,[]=>false
 | x::a,y::b=>if bj x y=0 then lP a b else ltC x y
theorem ltLs_cmp(hlt:∀x y,ltC x y=decide (bj x y<0)):∀a b,lP a b=decide (au a b<0)
 | [],[]=>by simp[au,lP]
 | [],_::_=>by simp[au,lP]
 | _::_,[]=>by simp[au,lP]
 | x::a,y::b=>by
  rw[au,lP];by_cases h:bj x y=0
  ·rw[if_pos h,if_pos h,ltLs_cmp hlt a b]
  ·rw[if_neg h,if_neg h,hlt]
theorem cmpFunc_u(a b:List Cr)(fa fb:Bool)(ha:a.length≤1000000)(hb:b.length≤1000000):aS Tryz.prog 111 [LC fa a,LC fb b,.fn 75 []] fun r=>r = .int .i64 (au a b):=by
 obtain⟨E,hE⟩:∃E,E=au a b:=⟨_,rfl⟩;rw[←hE];refine aC (aD tok Tryz.func111 rfl rfl ?_);refine wx ?_;simp -implicitDefEqProofs -dsimp[Tryz.f111,List.replicate,LC];refine aK (W_loopM 34 [6,7,8,9,10,13,14,15,16,17,18,19,20,21,22,23,24,25,26,27,28,29,30,31,32,33] (by simp[mB]<;>rfl) (σ:=Nat) (fun i=>i≤a.length∧i≤b.length∧au (a.drop i) (b.drop i)=E) (fun i=>a.length-i) (fun i=>[(13,.int .i64 i)]) (fun _=>[]) 0 ⟨by omega,by omega,by rw[List.drop_zero,List.drop_zero];exact hE.symm⟩ (by simp) rfl (by simp) ?_);rintro i ⟨hi,hi2,hx⟩ N Q hN hQ;by_cases h1:i<a.length
 ·by_cases h2:i<b.length
  ·rw[List.drop_eq_getElem_cons h1,List.drop_eq_getElem_cons h2,au]at hx;obtain⟨x,hxe⟩:∃x,x=a[i]:=⟨_,rfl⟩;obtain⟨y,hye⟩:∃y,y=b[i]:=⟨_,rfl⟩;rw[←hxe,←hye]at hx;have hc:=kI x y;simp only[aO]at hc;obtain⟨z,hz⟩:∃z,z=bj x y:=⟨_,rfl⟩;rw[←hz]at hc hx;by_cases hq:z=0
   ·rw[if_pos hq]at hx;refine wx ?_;simp -implicitDefEqProofs -dsimp[h1,h2,hxe.symm,hye.symm,aO,show ¬(b.length:Int)≤i by omega,show ¬b.length≤i by omega,LC];refine(aG (hc) (by simp)).mono ?_;rintro r H' ⟨rfl,rfl⟩;simp -implicitDefEqProofs -dsimp[hq,aM i (by omega),LC];refine hN (i+1) _ _ ⟨by omega,by omega,hx⟩ (by omega) (by simp) ⟨_,rfl⟩ (by simp) (by simp)
   ·rw[if_neg hq]at hx;refine wx ?_;simp -implicitDefEqProofs -dsimp[h1,h2,hxe.symm,hye.symm,aO,show ¬(b.length:Int)≤i by omega,show ¬b.length≤i by omega,LC];refine(aG (hc) (by simp)).mono ?_;rintro r H' ⟨rfl,rfl⟩;simp -implicitDefEqProofs -dsimp[hq,LC];refine hQ _ _ _ ?_;simp -implicitDefEqProofs -dsimp[LC];exact hx
  ·rw[List.drop_eq_getElem_cons h1,List.drop_of_length_le (show b.length≤i by omega),au]at hx;refine wx ?_;simp -implicitDefEqProofs -dsimp[h1,show(b.length:Int)≤i by omega,show b.length≤i by omega,aO,LC];refine hQ _ _ _ ?_;simp -implicitDefEqProofs -dsimp[LC];exact hx
 ·rw[List.drop_of_length_le (show a.length≤i by omega)]at hx;by_cases h2:i<b.length
  ·rw[List.drop_eq_getElem_cons h2,au]at hx;refine wx ?_;simp -implicitDefEqProofs -dsimp[h1,LC];refine hQ _ _ _ ?_;simp -implicitDefEqProofs -dsimp[show(a.length:Int)<b.length by omega,show a.length<b.length by omega,LC];exact hx
  ·rw[List.drop_of_length_le (show b.length≤i by omega),au]at hx;refine wx ?_;simp -implicitDefEqProofs -dsimp[h1,LC];refine hQ _ _ _ ?_;simp -implicitDefEqProofs -dsimp[show ¬(a.length:Int)<b.length by omega,show ¬a.length<b.length by omega,LC];exact hx
theorem lists_u(a b:List Cr)(fa fb:Bool)(ha:a.length≤1000000)(hb:b.length≤1000000):aS Tryz.prog 68 [LC fa a,LC fb b] fun r=>r = .int .i64 (au a b):=by
 have hc:=cmpFunc_u a b fa fb ha hb;refine aC (aD tok Tryz.func68 rfl rfl ?_);refine wx ?_;simp -implicitDefEqProofs -dsimp[Tryz.f68,List.replicate];refine(aG (hc) (by simp)).mono ?_;rintro r H' ⟨rfl,rfl⟩;simp -implicitDefEqProofs -dsimp[]
theorem lessCells_r(a b:List Cr)(fa fb:Bool)(ha:a.length≤1000000)(hb:b.length≤1000000):aS Tryz.prog 70 [LC fa a,LC fb b] fun r=>r = .bool (lP a b):=by
 obtain⟨E,hE⟩:∃E,E=lP a b:=⟨_,rfl⟩;rw[←hE];refine aC (aD tok Tryz.func70 rfl rfl ?_);refine wx ?_;simp -implicitDefEqProofs -dsimp[Tryz.f70,List.replicate,LC];refine aK (W_loopM 36 [4,5,6,7,8,9,10,11,12,13,14,15,16,17,18,19,20,21,22,23,24,25,26,27,28,29,30,31,32,33,34,35] (by simp[mB]<;>rfl) (σ:=Nat) (fun i=>i≤a.length∧i≤b.length∧lP (a.drop i) (b.drop i)=E) (fun i=>a.length-i) (fun i=>[(5,.int .i64 i)]) (fun _=>[]) 0 ⟨by omega,by omega,by rw[List.drop_zero,List.drop_zero];exact hE.symm⟩ (by simp) rfl (by simp) ?_);rintro i ⟨hi,hi2,hx⟩ N Q hN hQ;by_cases h1:i<a.length
 ·by_cases h2:i<b.length
  ·rw[List.drop_eq_getElem_cons h1,List.drop_eq_getElem_cons h2,lP]at hx;obtain⟨x,hxe⟩:∃x,x=a[i]:=⟨_,rfl⟩;obtain⟨y,hye⟩:∃y,y=b[i]:=⟨_,rfl⟩;rw[←hxe,←hye]at hx;have hc:=before_r x y;simp only[aO]at hc;by_cases hq0:bj x y=0
   ·rw[if_pos hq0]at hx;have hq:=(fM x y).1 hq0
    have hq2:(x.id == y.id&&x.attr == y.attr)=true:=by subst hq;simp
    refine wx ?_;simp -implicitDefEqProofs -dsimp[h1,h2,hxe.symm,hye.symm,aO,eqCr,hq2,LC];refine .inr ⟨aJ (by kernel_rfl),?_⟩;simp -implicitDefEqProofs -dsimp[aM i (by omega),LC];refine hN (i+1) _ _ ⟨by omega,by omega,hx⟩ (by omega) (by simp) ⟨[],rfl⟩ (by simp) (by simp)
   ·rw[if_neg hq0]at hx
    have hq:¬x=y:=fun h=>hq0 ((fM x y).2 h)
    have hq2:(x.id == y.id&&x.attr == y.attr)=false:=by
     cases h:(x.id == y.id&&x.attr == y.attr)
     ·rfl
     ·rw[Bool.and_eq_true,beq_iff_eq,beq_iff_eq]at h;exact absurd (Cr.eq_iff.2 h) hq
    refine wx ?_;simp -implicitDefEqProofs -dsimp[h1,h2,hxe.symm,hye.symm,aO,eqCr,hq2,LC];refine .inr ⟨aJ (by kernel_rfl),?_⟩;refine .inr ⟨aJ (by kernel_rfl),?_⟩;refine aj _ (aG (hc) (by simp)) ?_;simp -implicitDefEqProofs -dsimp[LC];refine hQ _ _ _ ?_;simp -implicitDefEqProofs -dsimp[LC];exact hx
  ·rw[List.drop_eq_getElem_cons h1,List.drop_of_length_le (show b.length≤i by omega),lP]at hx;refine wx ?_;simp -implicitDefEqProofs -dsimp[h1,h2,LC];refine hQ _ _ _ ?_;simp -implicitDefEqProofs -dsimp[show ¬(a.length:Int)<b.length by omega,show ¬a.length<b.length by omega,LC];exact hx.symm
 ·rw[List.drop_of_length_le (show a.length≤i by omega)]at hx;by_cases h2:i<b.length
  ·rw[List.drop_eq_getElem_cons h2,lP]at hx;refine wx ?_;simp -implicitDefEqProofs -dsimp[h1,LC];refine hQ _ _ _ ?_;simp -implicitDefEqProofs -dsimp[show(a.length:Int)<b.length by omega,show a.length<b.length by omega,LC];exact hx.symm
  ·rw[List.drop_of_length_le (show b.length≤i by omega),lP]at hx;refine wx ?_;simp -implicitDefEqProofs -dsimp[h1,LC];refine hQ _ _ _ ?_;simp -implicitDefEqProofs -dsimp[show ¬(a.length:Int)<b.length by omega,show ¬a.length<b.length by omega,LC];exact hx.symm
theorem pu(a b:Cr):bj a b<0∨a=b∨bj b a<0:=by
 rw[eK,eK];exact cLt_tri a b
theorem iy{a b c:Cr}(h:bj a b<0)(g:bj b c<0):bj a c<0:=by
 rw[eK]at *;exact ea h g
theorem cmpC_irr(a:Cr):¬bj a a<0:=by rw[eK];exact eh a
theorem nU{a b c:Cr}(h:¬bj a b<0)(g:¬bj b c<0):¬bj a c<0:=by
 intro hac
 rcases pu a b with h1 | h1 | h1
 ·exact h h1
 ·subst h1;exact g hac
 ·exact g (iy h1 hac)
theorem mw(a:List Cr):¬au a a<0:=by rw[(cmpLs_eq a a).2 rfl];omega
theorem kw(x y:Cr)(a b:List Cr):au (x::a) (y::b)<0↔bj x y<0∨(x=y∧au a b<0):=by
 rw[au];by_cases h:bj x y=0
 ·rw[if_pos h];have:=(fM x y).1 h;constructor
  ·intro h2;exact .inr ⟨this,h2⟩
  ·rintro(h2 | ⟨_,h2⟩)
   ·omega
   ·exact h2
 ·rw[if_neg h];constructor
  ·intro h2;exact .inl h2
  ·rintro(h2 | ⟨h2,_⟩)
   ·exact h2
   ·exact absurd ((fM x y).2 h2) h
theorem kJ:∀a b:List Cr,au a b<0∨a=b∨au b a<0
 | [],[]=>.inr (.inl rfl)
 | [],_::_=>.inl (by rw[au];omega)
 | _::_,[]=>.inr (.inr (by rw[au];omega))
 | x::a,y::b=>by
  rw[kw,kw]
  rcases pu x y with h | h | h
  ·exact .inl (.inl h)
  ·subst h
   rcases kJ a b with h2 | h2 | h2
   ·exact .inl (.inr ⟨rfl,h2⟩)
   ·subst h2;exact .inr (.inl rfl)
   ·exact .inr (.inr (.inr ⟨rfl,h2⟩))
  ·exact .inr (.inr (.inl h))
theorem gT:∀a b c:List Cr,au a b<0→au b c<0→au a c<0
 | [],[],_,h,_=>by rw[au]at h;omega
 | _::_,[],_,h,_=>by rw[au]at h;omega
 | _,_::_,[],_,g=>by rw[au]at g;omega
 | [],_::_,_::_,_,_=>by rw[au];omega
 | x::a,y::b,z::c,h,g=>by
  rw[kw]at *
  rcases h with h | ⟨rfl,h⟩
  ·rcases g with g | ⟨rfl,g⟩
   ·exact .inl (iy h g)
   ·exact .inl h
  ·rcases g with g | ⟨rfl,g⟩
   ·exact .inl g
   ·exact .inr ⟨rfl,gT a b c h g⟩
theorem mG{a b c:List Cr}(h:¬au a b<0)(g:¬au b c<0):¬au a c<0:=by
 intro hac
 rcases kJ a b with h1 | h1 | h1
 ·exact h h1
 ·subst h1;exact g hac
 ·exact g (gT _ _ _ h1 hac)
theorem ltLs_eq(a b:List Cr):lP a b=decide (au a b<0):=ltLs_cmp (fun x y=>by
 unfold ltC;by_cases h:bj x y<0
 ·rw[decide_eq_true h];exact decide_eq_true ((eK x y).1 h)
 ·rw[decide_eq_false h]
  exact decide_eq_false (fun h2=>h ((eK x y).2 h2))) a b
end
end Go.Proofs.YteijbpppalhihaaGreat
namespace Go.Proofs.YteijbpppalhihaaGreat
section
open Go Go.Shelf
def renC:Go.Shelf.Ren:=⟨fun n=>match n with
  | 6=>101
  | 14=>138
  | 15=>110
  | 20=>175
  | 21=>176
  | 22=>177
  | 23=>178
  | 24=>179
  | 25=>180
  | 26=>181
  | 27=>182
  | 28=>158
  | 29=>159
  | 46=>200
  | 47=>193
  | 48=>194
  | 49=>201
  | 50=>202
  | 57=>217
  | n=>n,fun n=>match n with
  | 0=>0
  | 3=>3
  | 4=>4
  | 5=>5
  | 9=>9
  | 22=>37
  | 24=>49
  | 25=>143
  | 39=>186
  | 45=>222
  | 46=>223
  | 50=>141
  | 53=>43
  | 55=>230
  | 66=>251
  | 70=>255
  | 76=>269
  | 77=>270
  | n=>n,fun n=>n⟩
theorem layC:Go.Proofs.SlLaysF0.n6 Tryz.prog renC:={
 mixed:=by kernel_rfl
 f6:=⟨Tryz.f101.name,by decide,Tryz.func101.trans (congrArg some (by kernel_rfl))⟩
 f14:=⟨Tryz.f138.name,by decide,Tryz.func138.trans (congrArg some (by kernel_rfl))⟩
 f15:=Tryz.func110.trans (congrArg some (by kernel_rfl))
 f20:=⟨Tryz.f175.name,by decide,Tryz.func175.trans (congrArg some (by kernel_rfl))⟩
 f21:=⟨Tryz.f176.name,by decide,Tryz.func176.trans (congrArg some (by kernel_rfl))⟩
 f22:=⟨Tryz.f177.name,by decide,Tryz.func177.trans (congrArg some (by kernel_rfl))⟩
 f23:=⟨Tryz.f178.name,by decide,Tryz.func178.trans (congrArg some (by kernel_rfl))⟩
 f24:=⟨Tryz.f179.name,by decide,Tryz.func179.trans (congrArg some (by kernel_rfl))⟩
 f25:=⟨Tryz.f180.name,by decide,Tryz.func180.trans (congrArg some (by kernel_rfl))⟩
 f26:=⟨Tryz.f181.name,by decide,Tryz.func181.trans (congrArg some (by kernel_rfl))⟩
 f27:=⟨Tryz.f182.name,by decide,Tryz.func182.trans (congrArg some (by kernel_rfl))⟩
 f28:=Tryz.func158.trans (congrArg some (by kernel_rfl))
 f29:=Tryz.func159.trans (congrArg some (by kernel_rfl))
 f46:=⟨Tryz.f200.name,by decide,Tryz.func200.trans (congrArg some (by kernel_rfl))⟩
 f47:=Tryz.func193.trans (congrArg some (by kernel_rfl))
 f48:=Tryz.func194.trans (congrArg some (by kernel_rfl))
 f49:=⟨Tryz.f201.name,by decide,Tryz.func201.trans (congrArg some (by kernel_rfl))⟩
 f50:=⟨Tryz.f202.name,by decide,Tryz.func202.trans (congrArg some (by kernel_rfl))⟩
 f57:=⟨Tryz.f217.name,by decide,Tryz.func217.trans (congrArg some (by kernel_rfl))⟩
 t0:=Tryz.underlying0
 a0:=Tryz.isAgg0
 z0:=Tryz.sizeOf0
 v0:=Tryz.zeroValue0
 t3:=Tryz.underlying3
 a3:=Tryz.isAgg3
 z3:=Tryz.sizeOf3
 v3:=Tryz.zeroValue3
 t4:=Tryz.underlying4
 a4:=Tryz.isAgg4
 z4:=Tryz.sizeOf4
 v4:=Tryz.zeroValue4
 t5:=Tryz.underlying5
 a5:=Tryz.isAgg5
 z5:=Tryz.sizeOf5
 v5:=Tryz.zeroValue5
 t9:=Tryz.underlying9
 a9:=Tryz.isAgg9
 z9:=Tryz.sizeOf9
 v9:=Tryz.zeroValue9
 t22:=Tryz.underlying37
 a22:=Tryz.isAgg37
 z22:=Tryz.sizeOf37
 v22:=Tryz.zeroValue37
 t25:=Tryz.underlying143
 a25:=Tryz.isAgg143
 z25:=Tryz.sizeOf143
 v25:=Tryz.zeroValue143
 t39:=Tryz.underlying186
 a39:=Tryz.isAgg186
 z39:=Tryz.sizeOf186
 v39:=Tryz.zeroValue186
 t45:=Tryz.underlying222
 a45:=Tryz.isAgg222
 z45:=Tryz.sizeOf222
 v45:=Tryz.zeroValue222
 t46:=Tryz.underlying223
 a46:=Tryz.isAgg223
 z46:=Tryz.sizeOf223
 v46:=Tryz.zeroValue223
 t50:=Tryz.underlying141
 a50:=Tryz.isAgg141
 z50:=Tryz.sizeOf141
 v50:=Tryz.zeroValue141
 t53:=Tryz.underlying43
 a53:=Tryz.isAgg43
 z53:=Tryz.sizeOf43
 v53:=Tryz.zeroValue43
 t55:=Tryz.underlying230
 a55:=Tryz.isAgg230
 z55:=Tryz.sizeOf230
 v55:=Tryz.zeroValue230
 t66:=Tryz.underlying251
 a66:=Tryz.isAgg251
 z66:=Tryz.sizeOf251
 v66:=Tryz.zeroValue251
 t70:=Tryz.underlying255
 a70:=Tryz.isAgg255
 z70:=Tryz.sizeOf255
 v70:=Tryz.zeroValue255
 t76:=Tryz.underlying269
 a76:=Tryz.isAgg269
 z76:=Tryz.sizeOf269
 v76:=Tryz.zeroValue269
 t77:=Tryz.underlying270
 a77:=Tryz.isAgg270
 z77:=Tryz.sizeOf270
 v77:=Tryz.zeroValue270 }
end
end Go.Proofs.YteijbpppalhihaaGreat
namespace Go.Proofs.YteijbpppalhihaaGreat
section
open Go Go.AM Go.RowKit Go.Lib Go.Sort
instance:Inhabited Cr:=⟨⟨0,0⟩⟩
def fZ(l:List Cr):List Cr:=l.mergeSort fun x y=>!(ltOf bj) y x
theorem oT(l:List Cr):(fZ l).Perm l:=List.mergeSort_perm _ _
theorem jl(l:List Cr):(fZ l).length=l.length:=(oT l).length_eq
theorem swoC:SWO (ltOf bj) where
 irrefl x:=by unfold ltOf;exact decide_eq_false (cmpC_irr x)
 trans x y z h g:=by unfold ltOf at *;exact decide_eq_true (iy (of_decide_eq_true h) (of_decide_eq_true g))
 ntrans x y z h g:=by unfold ltOf at *;exact decide_eq_false (nU (of_decide_eq_false h) (of_decide_eq_false g))
theorem totC(x y:Cr)(h:ltOf bj x y=false)(g:ltOf bj y x=false):x=y:=by
 unfold ltOf at *
 rcases pu x y with h1 | h1 | h1
 ·exact absurd h1 (of_decide_eq_false h)
 ·exact h1
 ·exact absurd h1 (of_decide_eq_false g)
def ng(c:Cr):List Value:=[.int .i64 c.id,.int .i64 c.attr]
theorem enK2_len(c:Cr):(ng c).length=2:=rfl
theorem enK2_one(c:Cr):∀v∈ng c,v.oneCell'=true:=by
 intro v hv;simp only[ng,List.mem_cons,List.not_mem_nil,or_false]at hv
 rcases hv with rfl | rfl<;>rfl
theorem enK2_at(d:Array Cr)(i j:Nat)(hi:i<d.size)(hj:j<2):(flatK ng 2 d)[i*2+j]! = (ng d[i]!)[j]!:=by
 rw[get_flatK _ _ _ _ (by omega),show(i*2+j) / 2=i by omega,show(i*2+j) % 2=j by omega]
theorem rel_enK2{s:AM.St}(c:Cr)(j:Nat)(d:V)(h:(aO c).cells[j]?=some d):j<2∧Rel s d (ng c)[j]!:=by
 match j,h with
 | 0,h=>cases h;exact⟨by omega,.int _ _⟩
 | 1,h=>cases h;exact⟨by omega,.int _ _⟩
 | n+2,h=>simp[aO,V.cells]at h
theorem cmpLaysC(blk off size:Nat)(w:World):CmpLays Tryz.prog 75 #[] ng 2 bj blk off size w:=fun m os dk _ x y=>compareK x y _
theorem nG{H:List B}{k:Nat}(l:List Cr)(n:Nat)(hn:l.length=n)(hk:k<H.length)(hl:n<4611686018427387904):
  az Tryz.prog 101 [.buf k 0 n n,.fn 75 []] (CB H k l) fun r H'=>r = .tup []∧H'=CB H k (fZ l):=by
 subst hn;have hH:=CB_at hk l;rw[←qH l (fZ l)];generalize CB H k l=H at hH;refine⟨⟨Tryz.f101,Tryz.func101,rfl,rfl⟩,fun s vals hA hg hsz hrel=>?_⟩;obtain⟨rfl,hZ⟩:=hA
 obtain⟨u0,u1,rfl⟩:∃u0 u1,vals = #[u0,u1]:=by
  obtain⟨l⟩:=vals
  match l,hsz with
  | [a,b],_=>exact⟨a,b,rfl⟩
 have r0:=hrel 0 _ u0 rfl rfl;have r1:=hrel 1 _ u1 rfl rfl
 cases r1 with
 | fn _ _ us hul _ =>
 obtain rfl:us = #[]:=Array.eq_empty_of_size_eq_zero (by simpa using hul)
 cases r0 with
 | buf _ _ _ _ e2 z2 xs2 fz2 A n c hk2 ht hh =>
 rw[hH]at hk2;cases hk2;obtain⟨hA,rfl,hcap,_⟩:=hh (bG l).symm;rw[Nat.zero_add]at hcap;by_cases h0:l=[]
 ·subst h0;refine(AnyF.slices_SortFunc_none layC A c _ s.w).mono ?_;rintro e w' ⟨rfl,rfl⟩;refine⟨_,s,.tup [],rfl,rfl,hg,Step.refl s,.tup [] #[] rfl (by simp),rfl,?_⟩;rw[show fZ []=[] by simp[fZ]];apply List.ext_getElem?;intro i;rw[List.getElem?_set];split
  ·rename_i h;subst h;rw[if_pos (aE hH),hH]
  ·rfl
 ·have hpos:0<l.length:=List.length_pos_iff.2 h0;obtain⟨vs,g2,g3,g4,g5,g6,g7⟩:=hg.blk k _ hH;rw[bG]at g4
  have hκ:s.κ k≠0:=by omega
  have hA:=hA hκ;subst hA;have g2:=g2 hκ;have hlt:=(hg.lt k (lvB hH hκ)).1
  have hcell:∀i j,i<l.length→j<2→vs[i*2+j]?=some (ng l.toArray[i]!)[j]!:=fun i j hi hj=>by
   have hx:(crL l)[i]?=some (aO l[i]):=by simp[crL,hi]
   obtain⟨u,hv⟩:∃u,vs[i*2+j]?=some u:=⟨_,Array.getElem?_eq_getElem (show i*2+j<vs.size by omega)⟩;rw[hv]
   have e1:l.toArray[i]! = l[i]:=by simp[hi]
   rw[e1]
   match j,hj,hv with
   | 0,_,hv =>
    have:=g7 i _ 0 _ _ hx rfl hv
    cases this with
    | int=>rfl
   | 1,_,hv =>
    have:=g7 i _ 1 _ _ hx rfl hv
    cases this with
    | int=>rfl
  have hHo:HoldsK ng 2 s.w (s.φ k) (0*2) l.toArray:=by
   intro t ht;rw[size_flatK,List.size_toArray]at ht;rw[get_flatK _ _ _ _ (by simpa using ht)];have h3:=hcell (t / 2) (t % 2) (by omega) (by omega);rw[show t / 2*2+t % 2=t by omega]at h3;refine⟨?_,?_⟩
   ·simp only[World.cell?,g2,Nat.zero_mul,Nat.zero_add];simpa using h3
   ·simp[World.frozen?,g2]
  have hs:=AnyQ.slices_SortFunc_total layC 2 Tryz.isAgg49 Tryz.sizeOf49 ng enK2_len enK2_one bj swoC 75 #[] (s.φ k) (0*2) c l.toArray s.w
   (fun args w=>rfl) (cmpLaysC _ _ _ _) hHo hlt (by simpa using hl) totC
  refine hs.mono ?_;rintro e w' ⟨rfl,n,os,hw⟩
  have hw2:w'=grow (putRow id (Go.Sort.ahead s.w n) (s.φ k) 0 (flatK ng 2 (fZ l).toArray)) os:=by
   rw[hw,Nat.zero_mul];rfl
  obtain⟨f1,f2⟩:=oY (ys:=crL (fZ l)) hg hH hκ (flatK ng 2 (fZ l).toArray) n os (by rw[bG,bG,jl]) (by rw[size_flatK,List.size_toArray,jl,bG])
   (fun y hy=>by obtain⟨c,_,rfl⟩:=List.mem_map.1 hy;exact⟨rfl,by simp[aO,V.cells,V.one]⟩) (fun i y j d hy hd=>by
    have hil:=aE hy;rw[bG]at hil
    have:(crL (fZ l))[i]?=some (aO (fZ l)[i]):=by simp[crL,hil]
    rw[this]at hy;cases hy;obtain⟨hj,hr⟩:=rel_enK2 (s:=s) _ j d hd;rw[enK2_at _ _ _ (by simpa using hil) hj]
    simpa[hil] using hr) w' hw2
  exact⟨_,_,.tup [],rfl,rfl,f1,f2,.tup [] #[] rfl (by simp),rfl,rfl⟩
end
end Go.Proofs.YteijbpppalhihaaGreat
namespace Go.Proofs.YteijbpppalhihaaGreat
section
open Go Go.AM
theorem Scalar.cells'{x:V}(h:Scalar x):∀c∈x.cells,Scalar c:=by
 cases h with
 | agg cs h=>exact h
 | _=>intro c hc;simp[V.cells]at hc;subst hc;constructor<;>assumption
theorem conH_of_conOL{P:Program}{f:FuncId}{args args':List V}{K:Nat→Nat→List V→Prop}{H:List B}(h:gK P f args' K)(hl:args.length=args'.length)(he:∀(i:Nat) a a',args[i]?=some a→args'[i]?=some a'→Exp H a a')
  (hs:∀e z xs,K e z xs→∀x∈xs,Scalar x):
  az P f args H fun r H'=>∃e z xs,r = .buf H.length 0 xs.length xs.length∧H'=H++[.buf e z xs false]∧(∀x∈xs,AM.Pure x)∧K e z xs:=by
 refine⟨h.1,fun s vals hH hg hsz hrel=>?_⟩;obtain⟨rfl,hZ⟩:=hH
 have hFl:∀b,hold s (fun _=>True) b→b<s.w.heap.size:=by
  rintro b (h | ⟨k,hk,rfl,_⟩)
  ·exact hg.fl b h
  ·exact(hg.lt k hk).1
 refine(h.2 (hold s fun _=>True) s.w vals (hZ.hold _) hFl (by omega) (fun i a' u ha' hu=>?_)).mono fun e w' ⟨u,e',z,xs,A,g0,c,a1,a2,aA,a3,a4,a5,a6,a7⟩=>?_
 ·have hi:i<args.length:=by have:=aE ha';omega
  have ha:args[i]?=some args[i]:=List.getElem?_eq_getElem hi;exact(hrel i _ u ha hu).exp hg (he i _ a' ha ha') (fun _ _ _ _ _=>trivial)
 ·subst a2;by_cases hc0:c=0
  ·subst hc0;obtain⟨_,_,_,g4,_⟩:=a5.blk 0 _ rfl;obtain rfl:xs=[]:=List.eq_nil_of_length_eq_zero (by simpa using g4);obtain⟨p1,p2⟩:=nI hg 0 e' z false a6.os a6.tape a6.output a6.size a6.block;refine⟨_,s.push w' 0 0 (.buf e' z [] false),.buf s.H.length 0 0 0,a1,rfl,p1,p2,?_,e',z,[],rfl,rfl,a3,a7⟩;refine .buf s.H.length 0 0 0 e' z [] false _ _ _ (by simp[St.push]) (Nat.le_refl _) (fun _=>?_);simp only[St.push,ae];exact⟨fun h=>absurd rfl h,by simp,by simp,by simp⟩
  have a4:=a4 hc0;have hA:=aA hc0;subst hA;have hgl:g0<w'.heap.size:=(a5.lt 0 (lvB (e:=e') (z:=z) (xs:=xs) (fz:=false) rfl hc0)).1;have hst:=eV (bl:=.buf e' z xs false) (c:=c) hg a6.os a6.tape a6.output a6.size a6.block a4;refine⟨_,s.push w' g0 c (.buf e' z xs false),.buf s.H.length 0 xs.length xs.length,a1,rfl,fS hg a6.os a6.tape a6.output a6.size a6.block a4 hgl (fun hst=>?_),hst,?_,e',z,xs,rfl,rfl,a3,a7⟩
  ·obtain⟨vs,g2,g3,g4,g5,g6,g7⟩:=a5.blk 0 _ rfl;exact⟨vs,fun _=>by simp only[St.push,ae];exact g2 hc0,by simp only[St.push,ae];exact g3,by simp only[St.push,ae];exact g4,by simp only[St.push,ae];exact g5,g6,fun i x j d u hx hd hu=>(g7 i x j d u hx hd hu).scalar (t:=s.push w' g0 c (.buf e' z xs false)) (Scalar.cells' (hs _ _ _ a7 x (List.mem_of_getElem? hx)) d (List.mem_of_getElem? hd))⟩
  ·refine .buf s.H.length 0 xs.length xs.length e' z xs false _ _ _ (by simp[St.push]) (Nat.le_refl _) (fun _=>?_);simp only[St.push,ae];exact⟨fun _=>by simp,trivial,by simp,by simp⟩
inductive ExpN (H:List B) (n:Nat):V→V→Prop
 | pure (v:V) (h:AM.Pure v):ExpN H n v v
 | buf (k off len e z:Nat) (xs:List V) (fz:Bool) (hn:n≤k) (hk:H[k]?=some (.buf e z xs fz)) (hl:off+len≤xs.length) (hp:∀x∈xs,AM.Pure x):ExpN H n (.buf k off len xs.length) (.lst z false ((xs.drop off).take len))
 | agg (cs ds:List V) (hl:cs.length=ds.length) (h:∀(i:Nat) c d,cs[i]?=some c→ds[i]?=some d→ExpN H n c d):ExpN H n (.agg cs) (.agg ds)
 | tup (cs ds:List V) (hl:cs.length=ds.length) (h:∀(i:Nat) c d,cs[i]?=some c→ds[i]?=some d→ExpN H n c d):ExpN H n (.tup cs) (.tup ds)
theorem ExpN.ex{H:List B}{n:Nat}{v v':V}(h:ExpN H n v v'):∃d0,∀d,d0≤d→exV H n d v=some v':=by
 induction h with
 | pure v h=>exact ln h
 | buf k off len e z xs fz hn hk hl hp =>
  obtain⟨d0,h0⟩:=fw (f:=exV H n) (xs:=(xs.drop off).take len) (fun v hv=>ln (hp v (List.mem_of_mem_drop (List.mem_of_mem_take hv))));refine⟨d0+1,fun d hd=>?_⟩;obtain⟨m,rfl⟩:∃m,d=m+1:=⟨d-1,by omega⟩;simp only[exV];rw[if_neg (by omega),hk];simp only;rw[if_pos ⟨by first | trivial | rfl,hl⟩,h0 m (by omega)]
 | agg cs ds hl _ ih =>
  obtain⟨d0,h0⟩:=mi (f:=exV H n) hl ih;exact⟨d0+1,fun d hd=>by obtain⟨m,rfl⟩:∃m,d=m+1:=⟨d-1,by omega⟩;simp only[exV,h0 m (by omega)]⟩
 | tup cs ds hl _ ih =>
  obtain⟨d0,h0⟩:=mi (f:=exV H n) hl ih;exact⟨d0+1,fun d hd=>by obtain⟨m,rfl⟩:∃m,d=m+1:=⟨d-1,by omega⟩;simp only[exV,h0 m (by omega)]⟩
theorem jZ{H:List B}{n:Nat}{a b c d:V}(h1:ExpN H n a c)(h2:ExpN H n b d):∀(i:Nat) x y,[a,b][i]?=some x→[c,d][i]?=some y→ExpN H n x y:=fun i x y hx hy=>by
 match i with
 | 0=>simp at hx hy;subst hx;subst hy;exact h1
 | 1=>simp at hx hy;subst hx;subst hy;exact h2
 | i+2=>simp at hx
theorem eo{H:List B}{n k len tot e z:Nat}{xs:List V}{fz:Bool}(hn:n≤k)(hk:H[k]?=some (.buf e z xs fz))(ht:tot=xs.length)(hl:len≤tot)(hp:∀x∈xs,AM.Pure x):ExpN H n (.buf k 0 len tot) (.lst z false (xs.take len)):=by
 subst ht;have:=ExpN.buf k 0 len e z xs fz hn hk (by omega) hp
 rwa [List.drop_zero]at this
theorem dL{P:Program}{f:FuncId}{args:List V}{H:List B}{K:V→Prop}(h:az P f args H fun x y=>∃G r',y=H++G∧ExpN y H.length x r'∧AM.Pure r'∧K r'):az P f args H fun x y=>K x∧AM.Pure x∧y=H:=by
 refine⟨h.1,fun s vals hA hg hsz hrel=>?_⟩;have hH:=hA.1
 refine(h.2 s vals hA hg hsz hrel).mono fun e w' ⟨u,s',x,a1,a2,a3,a4,a5,G,r',a7,a8,a9,a10⟩=>?_
 have hcl:∀bl∈H,ClB H.length bl:=by have:=hg.cl;rw[hH]at this;exact this
 refine⟨u,s'.cut H,r',a1,a2,cut_good2 a3 a7 hcl,?_,?_,a10,a9,rfl⟩
 ·exact lv a3 a7 (Step.refl (s'.cut H)) s a4 (by rw[hH];exact Nat.le_refl _)
 ·obtain⟨d0,hd⟩:=a8.ex;exact ex_rel a3 a7 d0 x r' u a5 (hd d0 (Nat.le_refl _))
theorem cD{P:Program}{f:FuncId}{args:List V}{K:V→Prop}(h:az P f args [] fun x y=>K x∧AM.Pure x∧y=[]):aS P f args K :=
 aC (h.mono fun r H' ⟨h1,h2,h3⟩=>⟨r,.pure r h2,h2,h1⟩)
end
end Go.Proofs.YteijbpppalhihaaGreat
namespace Go.Proofs.YteijbpppalhihaaGreat
section
open Go Go.AM Go.RowKit Go.Lib
theorem infoG_N:(Tryz.prog.info? 90).map (fun i=>(i.zero,i.size,i.bytes))=some (some (.agg #[.int .i64 0,.slice none 0 0]),2,32):=by kernel_rfl
theorem growPos_N(n:Nat)(w:World)(h0:0<n)(hn:n≤1000000):Calls Tryz.prog 191 #[.slice none 0 0,.int .i64 n] w fun e w' =>
   e = .returned (.slice (some ⟨w.heap.size,0,none⟩) 0 (grownCap w n 0 90))∧w'=w.drew.alloc (.cells (Builtin.zeroCells (.agg #[.int .i64 0,.slice none 0 0]:Value).cells n++Builtin.zeroCells (.agg #[.int .i64 0,.slice none 0 0]:Value).cells (grownCap w n 0 90-n)) 90):=by
 obtain⟨i0,hi0,hz0,hs0,hby⟩:=info_parts infoG_N
 have h1:¬((n:Int)<0):=by omega
 have hz25:∀w,(Go.sizeOf 90).run Tryz.prog w = .ok 2 w:=fun w=>by simp[Go.sizeOf,typeInfo,hi0,hs0]
 have hold:(Builtin.firstCells i0.size 0 (.slice none 0 0)).run Tryz.prog w.drew = .ok ([]:List Value).toArray w.drew:=run_firstCells_none w.drew i0.size 0 0 0
 have hbig:(0+n)*i0.bytes≤140737488355328:=by rw[hby];omega
 have hrz:∀ty,(Builtin.append_ #[72,3] ty #[.slice none 0 0,.int .i64 (n:Int)]).run Tryz.prog w =
   .ok (.slice (some ⟨w.heap.size,0,none⟩) n (grownCap w n 0 90)) (w.drew.alloc (.cells (Builtin.zeroCells (.agg #[.int .i64 0,.slice none 0 0]:Value).cells n++Builtin.zeroCells (.agg #[.int .i64 0,.slice none 0 0]:Value).cells (grownCap w n 0 90-n)) 90)):=fun ty=>by
  have h:=Lib.run_append_grow_zeros (P:=Tryz.prog) w 72 3 ty 90 i0 _ .i64 .i64 Tryz.underlying72 Tryz.underlying3 hi0 hz0 none 0 0 [] hold n h0 (by omega) (by omega) (by omega)
   (by rw[hby];omega)
   (growslice_fits (by omega) hbig)
  simpa using h
 have hGn:n≤grownCap w n 0 90:=grownCap_ge w _ _ _;obtain⟨G,hG⟩:∃G,G=grownCap w n 0 90:=⟨_,rfl⟩;rw[←hG]at hrz hGn ⊢
 have hG63:G≤9223372036854775807:=by
  have:=grownCap_le_maxLen w n 0 90 (by unfold maxLen;omega);rw[←hG]at this;unfold maxLen at this;omega
 have h2:RowKit.wrap64 ((0:Int)-0)=0:=by unfold RowKit.wrap64;omega
 have h3:RowKit.wrap64 ((n:Int)-0)=(n:Int):=by unfold RowKit.wrap64;omega
 have h4:(n:Int)> 0:=by omega
 clear hold hG hbig
 go_enter Tryz.func191,Tryz.ntmps191
 go_wp2_with (at_builtin;refine Lib.wpList_append_run _ rfl _ _ _ _ rfl _ _ rfl rfl _ _ (hrz _) ?_)
 all_goals (go_ret;exact⟨rfl,rfl⟩)
theorem growNil_N(w:World):Calls Tryz.prog 191 #[.slice none 0 0,.int .i64 0] w fun e w'=>e = .returned (.slice none 0 0)∧w'=w:=by
 go_enter Tryz.func191,Tryz.ntmps191
 go_wp2
 go_ret
 exact⟨rfl,rfl⟩
theorem grow_con_N(n:Nat)(hn:n≤1000000):gK Tryz.prog 191 [.nilS,.int .i64 n] fun e z ys=>e=90∧z=2∧ys=[]:=by
 refine conO_row ⟨Tryz.f191,Tryz.func191,rfl,rfl⟩ (fun F w vals hsz hrel=>?_)
 obtain⟨u0,u1,rfl⟩:∃u0 u1,vals = #[u0,u1]:=by
  obtain⟨l⟩:=vals
  match l,hsz with
  | [a,b],_=>exact⟨a,b,rfl⟩
 have r0:=hrel 0 _ u0 rfl rfl;have r1:=hrel 1 _ u1 rfl rfl;cases r0;cases r1;by_cases h0:n=0
 ·subst h0
  exact(growNil_N w).mono fun e w' ⟨h1,h2⟩=>⟨_,h1,by subst h2;exact Below.refl _ _,.inl rfl⟩
 ·refine(growPos_N n w (by omega) hn).mono fun e w' ⟨h1,h2⟩=>?_
  subst h2;have hge:=grownCap_ge w n 0 90;refine⟨_,h1,((Below.refl _ _).drew).alloc (Nat.le_refl _) _,.inr ⟨w.heap.size,grownCap w n 0 90,Builtin.zeroCells (.agg #[.int .i64 0,.slice none 0 0]:Value).cells n++Builtin.zeroCells (.agg #[.int .i64 0,.slice none 0 0]:Value).cells (grownCap w n 0 90-n),rfl,Nat.le_refl _,?_,by omega,grownCap_le_maxLen w n 0 90 (by unfold maxLen;omega),?_⟩⟩
  ·exact Array.getElem?_push_size (xs:=w.heap)
  ·rw[Array.size_append,size_zeroCells,size_zeroCells,←Nat.add_mul,Nat.add_sub_cancel' hge];rfl
end
end Go.Proofs.YteijbpppalhihaaGreat
namespace Go.Proofs.YteijbpppalhihaaGreat
section
open Go Go.AM Go.RowKit
structure FlV where
 f:Bool
 xs:List V
def dK(l:FlV):V:=.lst 2 l.f l.xs
def cZ(ls:List FlV):List V:=(ls.map (·.xs)).flatten
theorem kL(ls:List FlV)(i:Nat)(h:i<ls.length):cZ (ls.take (i+1))=cZ (ls.take i)++ls[i].xs:=by
 unfold cZ;rw[List.take_succ_eq_append_getElem h,List.map_append,List.flatten_append];simp
theorem catL_le(ls:List FlV)(i:Nat):(cZ (ls.take i)).length≤(cZ ls).length:=by
 conv=>rhs;rw[←List.take_append_drop i ls]
 unfold cZ;rw[List.map_append,List.flatten_append,List.length_append];omega
theorem iP{ls:List FlV}(hp:∀l∈ls,∀x∈l.xs,AM.Pure x∧dc x=true∧x.cells.length=2):∀x∈cZ ls,AM.Pure x∧dc x=true:=by
 intro x hx;obtain⟨l,hl,h⟩:=List.mem_flatten.1 hx;obtain⟨y,hy,rfl⟩:=List.mem_map.1 hl;exact⟨(hp y hy x h).1,(hp y hy x h).2.1⟩
theorem catW_N(n:Nat)(h:n≤1000000):n≤9223372036854775807∧n*32≤140737488355328:=by omega
theorem concat_N(ls:List FlV)(g:Bool)(hp:∀l∈ls,∀x∈l.xs,AM.Pure x∧dc x=true∧x.cells.length=2)(hl:ls.length≤1000000)(hs:(cZ ls).length≤1000000):aS Tryz.prog 149 [.lst 1 g (ls.map dK)] fun r=>r = .lst 2 false (cZ ls):=by
 have htl:=fun i=>catL_le ls i
 have hpF:∀l∈ls,AM.Pure (dK l):=fun l hl=>.lst _ _ _ (fun x hx=>(hp l hl x hx).1)
 refine aC (aD tok Tryz.func149 rfl rfl ?_);refine wx ?_;simp -implicitDefEqProofs -dsimp[Tryz.f149,List.replicate,dK];refine aK (W_loopM 23 [3,5,11,12,13,14,15,16,17,18,19,20,21,22] (by simp[mB]<;>rfl) (σ:=Nat) (fun i=>i≤ls.length) (fun i=>ls.length-i) (fun i=>[(11,.int .i64 i),(3,.int .i64 ((cZ (ls.take i)).length:Nat))]) (fun _=>[]) 0 (by omega) (by simp[cZ]) rfl (by simp) ?_);intro i hi N Q hN hQ;by_cases hb:i<ls.length
 ·have hsu:=kL ls i hb;have h1:=htl i;have h2:=htl (i+1);rw[hsu,List.length_append]at h2;obtain⟨c,hc⟩:∃c,c=(cZ (ls.take i)).length:=⟨_,rfl⟩;rw[←hc]at h1 h2
  have hlx:(cZ (ls.take (i+1))).length=c+ls[i].xs.length:=by rw[hsu,List.length_append,hc]
  obtain⟨x,hx⟩:∃x,x=ls[i]:=⟨_,rfl⟩;rw[←hx]at h2 hlx;have hx':=hx.symm;obtain⟨d,hd⟩:∃d,d=c+x.xs.length:=⟨_,rfl⟩
  have hw:IntKind.i64.wrap ((c:Int)+(x.xs.length:Int))=(d:Int):=by rw[wrap64 (by omega) (by omega),hd];push_cast;rfl
  refine wx ?_;simp -implicitDefEqProofs -dsimp[hb,hx',hw,show ¬(d:Int)<0 by omega,aM i (by omega),←hc,dK];refine hN (i+1) _ _ (by omega) (by omega) (by simp[hlx,hd]) ⟨[],rfl⟩ (by simp;exact hpF) (by simp)
 ·obtain rfl:i=ls.length:=by omega
  rw[List.take_length];have hg:=ep (H:=[]) (grow_con_N (cZ ls).length hs) (by simp);refine wx ?_;simp -implicitDefEqProofs -dsimp[hb,dK];refine hQ _ _ _ ?_;simp -implicitDefEqProofs -dsimp[dK];refine hg.mono ?_;rintro r H' ⟨e,z,xs,rfl,rfl,_,rfl,rfl,rfl⟩;simp -implicitDefEqProofs -dsimp[dK];refine aK (W_loopM 35 [6,8,27,28,29,30,31,32,33,34] (by simp[mB]<;>rfl) (σ:=Nat) (fun i=>i≤ls.length) (fun i=>ls.length-i) (fun i=>[(27,.int .i64 i),(6,.buf 0 0 (cZ (ls.take i)).length (cZ (ls.take i)).length)]) (fun i=>[B.buf 90 2 (cZ (ls.take i)) false]) 0 (by omega) (by simp[cZ]) (by simp[cZ]) (by simp) ?_);intro i hi N2 Q2 hN2 hQ2;by_cases hb:i<ls.length
  ·have hsu:=kL ls i hb;have h2:=htl (i+1);have hpi:=hp ls[i] (List.getElem_mem hb);have hpc:=iP (ls:=ls.take (i+1)) (fun l hl=>hp l (List.mem_of_mem_take hl));obtain⟨x,hx⟩:∃x,x=ls[i]:=⟨_,rfl⟩;rw[←hx]at hsu hpi;have hx':=hx.symm;rw[hsu]at h2 hpc;obtain⟨xs,hxs⟩:∃xs,xs=x.xs:=⟨_,rfl⟩;have hxs':=hxs.symm;rw[←hxs]at hsu h2 hpc hpi;by_cases h0:xs=[]
   ·rw[h0,List.append_nil]at hsu;refine wx ?_;simp -implicitDefEqProofs -dsimp[hb,hx',hxs',h0,aM i (by omega),dK];refine hN2 (i+1) _ _ (by omega) (by omega) (by simp[hsu]) ⟨[],by simp[hsu]⟩ (by simp;exact hpF) (by rw[h0,List.append_nil]at hpc;intro bl hbl;rcases List.mem_cons.1 hbl with rfl | hbl;exact(rbB_buf1 (by rw[hsu];exact hpc)).2 trivial;cases hbl)
   ·obtain⟨c,hc⟩:∃c,c=cZ (ls.take i):=⟨_,rfl⟩;rw[←hc]at hsu h2 hpc;rw[List.length_append]at h2;refine wx ?_;simp -implicitDefEqProofs -dsimp[hb,hx',hxs',h0,aM i (by omega),←hc,catW_N (c.length+xs.length) (by omega),dK];refine hN2 (i+1) _ _ (by omega) (by omega) (by simp[hsu]) ⟨[],by simp[hsu]⟩ (by simp;exact hpF) (by intro bl hbl;rcases List.mem_cons.1 hbl with rfl | hbl;exact(rbB_buf1 (by rw[hsu];exact hpc)).2 trivial;cases hbl)
  ·obtain rfl:i=ls.length:=by omega
   rw[List.take_length];refine wx ?_;simp -implicitDefEqProofs -dsimp[hb,dK];refine hQ2 _ _ _ ?_;simp -implicitDefEqProofs -dsimp[dK];exact⟨dr rfl rfl (fun x hx=>(iP hp x hx).1),fun x hx=>(iP hp x hx).1⟩
theorem catW_C(n:Nat)(h:n≤1000000):n≤9223372036854775807∧n*16≤140737488355328:=by omega
theorem concatO_C(ls:List FlV)(g:Bool)(hp:∀l∈ls,∀x∈l.xs,AM.Pure x∧dc x=true∧x.cells.length=2)(hl:ls.length≤1000000)(hs:(cZ ls).length≤1000000):gK Tryz.prog 100 [.lst 1 g (ls.map dK)] fun e z xs=>e=49∧z=2∧xs=cZ ls:=by
 have htl:=fun i=>catL_le ls i
 have hpF:∀l∈ls,AM.Pure (dK l):=fun l hl=>.lst _ _ _ (fun x hx=>(hp l hl x hx).1)
 refine dP (aD tok Tryz.func100 rfl rfl ?_);refine wx ?_;simp -implicitDefEqProofs -dsimp[Tryz.f100,List.replicate,dK];refine aK (W_loopM 23 [3,5,11,12,13,14,15,16,17,18,19,20,21,22] (by simp[mB]<;>rfl) (σ:=Nat) (fun i=>i≤ls.length) (fun i=>ls.length-i) (fun i=>[(11,.int .i64 i),(3,.int .i64 ((cZ (ls.take i)).length:Nat))]) (fun _=>[]) 0 (by omega) (by simp[cZ]) rfl (by simp) ?_);intro i hi N Q hN hQ;by_cases hb:i<ls.length
 ·have hsu:=kL ls i hb;have h1:=htl i;have h2:=htl (i+1);rw[hsu,List.length_append]at h2;obtain⟨c,hc⟩:∃c,c=(cZ (ls.take i)).length:=⟨_,rfl⟩;rw[←hc]at h1 h2
  have hlx:(cZ (ls.take (i+1))).length=c+ls[i].xs.length:=by rw[hsu,List.length_append,hc]
  obtain⟨x,hx⟩:∃x,x=ls[i]:=⟨_,rfl⟩;rw[←hx]at h2 hlx;have hx':=hx.symm;obtain⟨d,hd⟩:∃d,d=c+x.xs.length:=⟨_,rfl⟩
  have hw:IntKind.i64.wrap ((c:Int)+(x.xs.length:Int))=(d:Int):=by rw[wrap64 (by omega) (by omega),hd];push_cast;rfl
  refine wx ?_;simp -implicitDefEqProofs -dsimp[hb,hx',hw,show ¬(d:Int)<0 by omega,aM i (by omega),←hc,dK];refine hN (i+1) _ _ (by omega) (by omega) (by simp[hlx,hd]) ⟨[],rfl⟩ (by simp;exact hpF) (by simp)
 ·obtain rfl:i=ls.length:=by omega
  rw[List.take_length];have hg:=ep (H:=[]) (kg (cZ ls).length hs) (by simp);refine wx ?_;simp -implicitDefEqProofs -dsimp[hb,dK];refine hQ _ _ _ ?_;simp -implicitDefEqProofs -dsimp[dK];refine hg.mono ?_;rintro r H' ⟨e,z,xs,rfl,rfl,_,rfl,rfl,rfl⟩;simp -implicitDefEqProofs -dsimp[dK];refine aK (W_loopM 35 [6,8,27,28,29,30,31,32,33,34] (by simp[mB]<;>rfl) (σ:=Nat) (fun i=>i≤ls.length) (fun i=>ls.length-i) (fun i=>[(27,.int .i64 i),(6,.buf 0 0 (cZ (ls.take i)).length (cZ (ls.take i)).length)]) (fun i=>[B.buf 49 2 (cZ (ls.take i)) false]) 0 (by omega) (by simp[cZ]) (by simp[cZ]) (by simp) ?_);intro i hi N2 Q2 hN2 hQ2;by_cases hb:i<ls.length
  ·have hsu:=kL ls i hb;have h2:=htl (i+1);have hpi:=hp ls[i] (List.getElem_mem hb);have hpc:=iP (ls:=ls.take (i+1)) (fun l hl=>hp l (List.mem_of_mem_take hl));obtain⟨x,hx⟩:∃x,x=ls[i]:=⟨_,rfl⟩;rw[←hx]at hsu hpi;have hx':=hx.symm;rw[hsu]at h2 hpc;obtain⟨xs,hxs⟩:∃xs,xs=x.xs:=⟨_,rfl⟩;have hxs':=hxs.symm;rw[←hxs]at hsu h2 hpc hpi;by_cases h0:xs=[]
   ·rw[h0,List.append_nil]at hsu;refine wx ?_;simp -implicitDefEqProofs -dsimp[hb,hx',hxs',h0,aM i (by omega),dK];refine hN2 (i+1) _ _ (by omega) (by omega) (by simp[hsu]) ⟨[],by simp[hsu]⟩ (by simp;exact hpF) (by rw[h0,List.append_nil]at hpc;intro bl hbl;rcases List.mem_cons.1 hbl with rfl | hbl;exact(rbB_buf1 (by rw[hsu];exact hpc)).2 trivial;cases hbl)
   ·obtain⟨c,hc⟩:∃c,c=cZ (ls.take i):=⟨_,rfl⟩;rw[←hc]at hsu h2 hpc;rw[List.length_append]at h2;refine wx ?_;simp -implicitDefEqProofs -dsimp[hb,hx',hxs',h0,aM i (by omega),←hc,catW_C (c.length+xs.length) (by omega),dK];refine hN2 (i+1) _ _ (by omega) (by omega) (by simp[hsu]) ⟨[],by simp[hsu]⟩ (by simp;exact hpF) (by intro bl hbl;rcases List.mem_cons.1 hbl with rfl | hbl;exact(rbB_buf1 (by rw[hsu];exact hpc)).2 trivial;cases hbl)
  ·obtain rfl:i=ls.length:=by omega
   rw[List.take_length];refine wx ?_;simp -implicitDefEqProofs -dsimp[hb,dK];refine hQ2 _ _ _ ?_;simp -implicitDefEqProofs -dsimp[dK];exact⟨0,49,2,cZ ls,by simp,rfl,fun x hx=>(iP hp x hx).1,rfl,rfl,rfl⟩
end
end Go.Proofs.YteijbpppalhihaaGreat
namespace Go.AM
section
open Go
section
section
variable {P:Program} {T:Ty}
theorem nH{ops:Array Oper}{fr:List V}{val val':Nat→V}{D:Nat→Bool}{t:Nat}(h:∀k,D k=true→val k=val' k):∀n,bZ ops fr val D n t=bZ ops fr val' D n t
 | 0=>rfl
 | n+1=>by
  simp only[bZ];rw[nH h n];by_cases hD:D n=true
  ·rw[h n hD]
  ·rw[if_neg (fun hh=>hD hh.1),if_neg (fun hh=>hD hh.1)]
theorem drawJ_sound(hT:TOk P T){ops:Array Oper}{E:Bool→List Nat}{val:Bool→Nat→V}{Hs:Bool→Nat→List B}{fr:List V}{s0:St}{Q:Exit→Act→World→Prop}(hz0:GOk P s0)
  (hst:iW ops []=true) (hE:∀j,∀e∈E j,e<ops.size) (hnd:∀j,(E j).Nodup) (hperm:∀j j' e,e∈E j'→e∈E j)
  (hsw:∀j c i,i∈(E j).drop c→(∀e∈(E j).drop c,e≠i→bef (aR [] ops.toList) e i=false)→∃j',(E j').length=(E j).length∧(E j').take c=(E j).take c∧(E j')[c]?=some i∧Hs j' c=Hs j c∧∀k,(∀e∈(E j).drop c,k≠e∧bef (aR [] ops.toList) e k=false)→val j' k=val j k)
  (hcl:∀j i o,ops[i]?=some o→gI T ops (aV P) (aR [] ops.toList) (E j) (Hs j) o i (ap ops fr (val j) i) (val j i))
  (hQ:∀j s a,Good s→Step s0 s→FRel s (ap ops fr (val j) ops.size) a.tmps→a.defers=[]→s.H=Hs j (E j).length→Q .normal a s.w):
  ∀(fuel:Nat) (listed:Array Bool) (s:St) (a:Act) (j:Bool) (c:Nat),listed.size=ops.size→eO ops (fun i=>listed.getD i false)→
   ((List.range ops.size).filter fun i=>!(listed.getD i false)).length≤fuel→c≤(E j).length→(∀k e,(E j)[k]?=some e→(listed.getD e false=true↔k<c))→
   Good s→Step s0 s→s.H=Hs j c→FRel s (dC ops fr (val j) fun i=>listed.getD i false) a.tmps→a.defers=[]→wpAny P .any ops Q fuel listed a s.w:=by
 simp only[iW,Bool.and_eq_true,List.all_eq_true,decide_eq_true_eq,List.mem_range]at hst;have hops:=hst.2
 have hback:∀(j:Nat) (o:Oper),ops[j]?=some o→∀e∈o.after.toList,Region.binds .any e=true→e.on<j:=fun j o ho e he hbd=>by
  have hj:=(Array.getElem?_eq_some_iff.1 ho).1;have:=hops j hj;rw[ho]at this;simp only[Bool.and_eq_true,List.all_eq_true]at this;have h1:=this.1.1 e he;rw[hbd]at h1;simpa using h1
 have htmp:∀(j i:Nat) (oj oi:Oper) (t:Nat),ops[j]?=some oj→ops[i]?=some oi→t∈ct ops oj→oi.dst=some t→i=j∨(i<j∧bef (aR [] ops.toList) i j=true)∨(j<i∧bef (aR [] ops.toList) j i=true):=fun j i oj oi t hoj hoi ht hd=>by
  have hj:=(Array.getElem?_eq_some_iff.1 hoj).1;have hi:=(Array.getElem?_eq_some_iff.1 hoi).1;have:=hops j hj;rw[hoj]at this;simp only[Bool.and_eq_true,List.all_eq_true]at this;have h2:=this.1.2 t ht i (by simpa using hi);rw[hoi]at h2;simp only[hd,Bool.or_eq_true,Bool.and_eq_true,decide_eq_true_eq,beq_iff_eq,Bool.not_eq_true',beq_eq_false_iff_ne,ne_eq,not_true_eq_false,false_or]at h2
  rcases h2 with(h | h) | h
  ·exact .inl h
  ·exact .inr (.inl h)
  ·exact .inr (.inr h)
 have hmask:∀(D:Nat→Bool),eO ops D→∀i j,j<ops.size→bef (aR [] ops.toList) i j=true→D j=true→D i=true:=fun D hD i j hj hb hDj=>by
  obtain⟨ms,h1,h2,_⟩:=im ops.toList [];rw[List.nil_append]at h1
  have hlen:(aR [] ops.toList).length=ops.size:=by rw[h1,h2];simp
  have hm:(aR [] ops.toList)[j]?=some ((aR [] ops.toList)[j]'(by omega)):=List.getElem?_eq_getElem (by omega);unfold bef at hb;rw[hm]at hb;exact nM hD hback j i _ hm hb hDj
 have fin:∀(listed:Array Bool) (s:St) (a:Act) (jj:Bool) (c:Nat),(∀i,i<ops.size→listed.getD i false=true)→c≤(E jj).length→(∀k e,(E jj)[k]?=some e→(listed.getD e false=true↔k<c))→Good s→Step s0 s→s.H=(Hs jj) c →
   FRel s (dC ops fr (val jj) fun i=>listed.getD i false) a.tmps→a.defers=[]→Q .normal a s.w:=fun listed s a jj c hall hc hpre hg hs hH hf hd=>by
  have hcE:c=(E jj).length:=by
   rcases Nat.lt_or_ge c (E jj).length with h | h
   ·have he:(E jj)[c]?=some (E jj)[c]:=List.getElem?_eq_getElem h;have:=(hpre c _ he).1 (hall _ (hE jj _ (List.getElem_mem h)));omega
   ·omega
  subst hcE;refine hQ jj s a hg hs ?_ hd hH
  have:(dC ops fr (val jj) fun i=>listed.getD i false)=ap ops fr (val jj) ops.size:=by
   apply List.ext_getElem?;intro t;rw[cq,eI];refine dH (fun j hj _=>hall j hj) (fun j hj hdst=>?_) ops.size (Nat.le_refl _);rw[Array.getElem?_eq_none hj]at hdst;simp at hdst
  rwa [this]at hf
 have done:∀(listed:Array Bool),listed.size=ops.size→Region.ready .any ops listed=[]→∀i,i<ops.size→listed.getD i false=true:=fun listed hsz hr i=>by
  induction i using Nat.strongRecOn with
  | _ i ih =>
   intro hi
   cases hD:listed.getD i false with
   | true=>rfl
   | false =>
    exfalso
    have hmem:i∈Region.ready .any ops listed:=by
     unfold Region.ready;rw[List.mem_filter]
     have ho:ops[i]?=some ops[i]:=by simp[hi]
     have hil:i<listed.size:=by omega
     refine⟨by simpa using hi,?_⟩;rw[ho];simp only[Option.map_some,Option.getD_some,Bool.and_eq_true,Bool.not_eq_true'];refine⟨by simp[Array.getD,hil]at hD ⊢;exact hD,?_⟩;rw[Array.all_eq_true'];intro e he;by_cases hbd:Region.binds .any e=true
     ·have hlt:=hback i _ ho e (by simpa using he) hbd;simp[ih e.on hlt (by omega)]
     ·simp[hbd]
    rw[hr]at hmem;simp at hmem
 intro fuel
 induction fuel with
 | zero =>
  intro listed s a jj c hsz hcl2 hcnt hc hpre hg hs hH hf hd
  have hall:∀i,i<ops.size→listed.getD i false=true:=fun i hi=>by
   cases hD:listed.getD i false with
   | true=>rfl
   | false =>
    exfalso
    have:i∈(List.range ops.size).filter fun i=>!(listed.getD i false):=by rw[List.mem_filter];exact⟨by simpa using hi,by simp only[hD];rfl⟩
    have h0:((List.range ops.size).filter fun i=>!(listed.getD i false))=[]:=List.eq_nil_of_length_eq_zero (by omega);rw[h0]at this;simp at this
  refine⟨?_,fin listed s a jj c hall hc hpre hg hs hH hf hd⟩;unfold Region.ready;rw[List.filter_eq_nil_iff];intro i hi
  have hil:i<listed.size:=by rw[hsz];simpa using hi
  have:=hall i (by simpa using hi)
  have h1:listed.getD i true=true:=by simpa[Array.getD,hil] using this
  simp[h1]
 | succ fuel ih =>
  intro listed s a jj c hsz hcl2 hcnt hc hpre hg hs hH hf hd;refine⟨fun hr=>fin listed s a jj c (done listed hsz hr) hc hpre hg hs hH hf hd,fun i hi=>?_⟩;unfold Region.ready at hi;rw[List.mem_filter]at hi;obtain⟨hin,hcond⟩:=hi
  have hin:i<ops.size:=by simpa using hin
  have hil:i<listed.size:=by omega
  have ho:ops[i]?=some ops[i]:=by simp[hin]
  generalize ops[i]=o at ho;rw[ho]at hcond;simp only[Option.map_some,Option.getD_some,Bool.and_eq_true,Bool.not_eq_true']at hcond;obtain⟨hDi,hedge⟩:=hcond
  have hDi:listed.getD i false=false:=by simp only[Array.getD,hil,dif_pos]at hDi ⊢;exact hDi
  rw[Array.all_eq_true']at hedge
  have hD':∀j,(listed.setIfInBounds i true).getD j false=if j=i then true else listed.getD j false:=fun j=>by
   by_cases hj:j=i
   ·subst hj;simp[Array.getD,hil]
   ·rw[if_neg hj,Array.getD_eq_getD_getElem?,Array.getD_eq_getD_getElem?,Array.getElem?_setIfInBounds_ne (Ne.symm hj)]
  have hclosed':eO ops (fun j=>(listed.setIfInBounds i true).getD j false):=fun j oj hoj hj e he hb=>by
   simp only[hD']at hj ⊢;by_cases hji:j=i
   ·subst hji;rw[ho]at hoj;cases hoj;have:=hedge e (by simpa using he);rw[hb]at this;simp at this;split
    ·rfl
    ·simpa using this
   ·rw[if_neg hji]at hj;split
    ·rfl
    ·exact hcl2 j oj hoj hj e he hb
  have before:∀j,j≠i→bef (aR [] ops.toList) j i=true→listed.getD j false=true:=fun j hji hb=>by
   have:=hmask _ hclosed' j i hin hb (by simp[hD']);simp only[hD',if_neg hji]at this;exact this
  have behind:∀j,j<ops.size→bef (aR [] ops.toList) i j=true→listed.getD j false=false:=fun j hj hb=>by
   cases hDj:listed.getD j false with
   | false=>rfl
   | true=>have:=hmask _ hcl2 i j hj hb hDj;rw[hDi]at this;cases this
  have hsel:∃j',(E j').length=(E jj).length∧(∀k e,(E j')[k]?=some e→(listed.getD e false=true↔k<c))∧s.H=Hs j' c∧FRel s (dC ops fr (val j') fun i=>listed.getD i false) a.tmps∧(i∈E j'→(E j')[c]?=some i):=by
   by_cases hiE:i∈E jj
   ·obtain⟨ki,hki⟩:=List.getElem?_of_mem hiE
    have hkc:c≤ki:=by
     rcases Nat.lt_or_ge ki c with h | h
     ·have:=(hpre ki i hki).2 h;rw[hDi]at this;cases this
     ·exact h
    have hin':i∈(E jj).drop c:=List.mem_of_getElem? (i:=ki-c) (by rw[List.getElem?_drop,Nat.add_sub_cancel' hkc];exact hki)
    have notl:∀e∈(E jj).drop c,listed.getD e false=false:=fun e he=>by
     obtain⟨k,hk⟩:=List.getElem?_of_mem he;rw[List.getElem?_drop]at hk
     cases hD:listed.getD e false with
     | false=>rfl
     | true=>have:=(hpre _ e hk).1 hD;omega
    obtain⟨j',h1,h2,h3,h4,h5⟩:=hsw jj c i hin' (fun e he hne=>by
     cases hb:bef (aR [] ops.toList) e i with
     | false=>rfl
     | true=>have:=before e hne hb;rw[notl e he]at this;cases this)
    refine⟨j',h1,fun k e hk=>?_,hH.trans h4.symm,?_,fun _=>h3⟩
    ·rcases Nat.lt_or_ge k c with hkc | hkc
     ·have hk2:(E jj)[k]?=some e:=by
       have e1:((E j').take c)[k]?=some e:=by rw[List.getElem?_take,if_pos hkc];exact hk
       rw[h2,List.getElem?_take,if_pos hkc]at e1;exact e1
      exact hpre k e hk2
     ·constructor
      ·intro hD;exfalso;have hmem:e∈E jj:=hperm jj j' e (List.mem_of_getElem? hk);obtain⟨k2,hk2⟩:=List.getElem?_of_mem hmem;have hlt:=(hpre k2 e hk2).1 hD
       have e1:((E jj).take c)[k2]?=some e:=by rw[List.getElem?_take,if_pos hlt];exact hk2
       rw[←h2,List.getElem?_take,if_pos hlt]at e1;have hk2l:=aE e1;have hkl:=aE hk
       have e2:(E j')[k2]=e:=by rw[List.getElem?_eq_getElem hk2l]at e1;exact Option.some.inj e1
       have e3:(E j')[k]=e:=by rw[List.getElem?_eq_getElem hkl]at hk;exact Option.some.inj hk
       have:=(List.getElem_inj (hnd j')).1 (e2.trans e3.symm);omega
      ·intro h;omega
    ·have hv:(dC ops fr (val j') fun i=>listed.getD i false)=(dC ops fr (val jj) fun i=>listed.getD i false):=by
      apply List.ext_getElem?;intro t;rw[cq,cq];refine nH (fun k hk=>?_) _
      refine h5 k fun e he=>⟨fun h=>?_,?_⟩
      ·subst h;rw[notl _ he]at hk;cases hk
      ·cases hb:bef (aR [] ops.toList) e k with
       | false=>rfl
       | true =>
        have hkl:k<ops.size:=by
         rcases Nat.lt_or_ge k ops.size with h | h
         ·exact h
         ·rw[Array.getD_eq_getD_getElem?,Array.getElem?_eq_none (by omega)]at hk;cases hk
        have:=hmask _ hcl2 e k hkl hb hk;rw[notl e he]at this;cases this
     rw[hv];exact hf
   ·exact⟨jj,rfl,hpre,hH,hf,fun h=>absurd h hiE⟩
  obtain⟨j',hj1,hj2,hj3,hj4,hj5⟩:=hsel;rw[←hj1]at hc;clear hpre hH hf;have hpre:=hj2;have hH:=hj3;have hf:=hj4;clear hj2 hj3 hj4 hj1;clear jj
  rename Bool=>jj
  have meets:∀t,t∈ct ops o→(∀j,j<i→(ops[j]?).bind (·.dst)=some t→listed.getD j false=true)∧(∀j,i<j→(ops[j]?).bind (·.dst)=some t→listed.getD j false=false):=fun t ht=>by
   refine⟨fun j hj hdst=>?_,fun j hj hdst=>?_⟩
   ·cases hoj:ops[j]? with
    | none=>rw[hoj]at hdst;simp at hdst
    | some oj =>
     rw[hoj]at hdst
     rcases htmp i j o oj t ho hoj ht (by simpa using hdst) with h | h | h
     ·omega
     ·exact before j (by omega) h.2
     ·omega
   ·cases hoj:ops[j]? with
    | none=>rw[hoj]at hdst;simp at hdst
    | some oj =>
     rw[hoj]at hdst
     rcases htmp i j o oj t ho hoj ht (by simpa using hdst) with h | h | h
     ·omega
     ·omega
     ·exact behind j (Array.getElem?_eq_some_iff.1 hoj).1 h.2
  have agree:∀t,t∈ct ops o→(dC ops fr (val jj) fun i=>listed.getD i false)[t]?=(ap ops fr (val jj) i)[t]?:=fun t ht=>by
   rw[cq,eI];refine dH (meets t ht).1 (fun j hj hdst=>?_) ops.size (by omega);by_cases hji:j=i
   ·subst hji;exact hDi
   ·exact(meets t ht).2 j (by omega) hdst
  have hop:∀x∈o.op.operands,aU (dC ops fr (val jj) fun i=>listed.getD i false) x=aU (ap ops fr (val jj) i) x:=fun x hx=>by
   refine nS fun t e=>agree t ?_
   subst e;simp only[ct,Oper.looksAt,List.mem_append,List.mem_filterMap];exact .inl (.inl ⟨.tmp t,by simpa using hx,rfl⟩)
  have hwant:bQ ops (dC ops fr (val jj) fun i=>listed.getD i false) o=bQ ops (ap ops fr (val jj) i) o:=by
   unfold bQ
   cases hgd:o.guard with
   | none=>rfl
   | some g =>
    obtain⟨j,want⟩:=g;simp only
    cases hoj:ops[j]? with
    | none=>rfl
    | some oj =>
     simp only
     cases hdj:oj.dst with
     | none=>rfl
     | some d =>
      simp only;rw[agree d (by simp[ct,Oper.looksAt,hgd,hoj,hdj])]
  have next:∀{s1:St} {u:Value} {c':Nat},Good s1→Step s s1→Rel s1 ((val jj) i) u→c'≤(E jj).length→s1.H=(Hs jj) c'→(∀k e,(E jj)[k]?=some e→((listed.setIfInBounds i true).getD e false=true↔k<c'))→
    wpAny P .any ops Q fuel (listed.setIfInBounds i true) (a.put o.dst u) s1.w:=fun {s1 u c'} g1 g2 g3 g4 g5 g6=>by
   refine ih _ s1 _ jj c' (by simp[hsz]) hclosed' ?_ g4 g6 g1 (hs.trans g2) g5 ?_ (by rw[kZ];exact hd)
   ·have:=jW (p:=fun j=>!(listed.getD j false)) (q:=fun j=>!((listed.setIfInBounds i true).getD j false)) (i:=i) (by simp only[hDi];rfl) (by simp[hD']) (fun j hj=>by
     simp only[hD']at hj;split at hj
     ·simp at hj
     ·exact hj) (l:=List.range ops.size) (by simpa using hin)
    omega
   ·have hnow:(dC ops fr (val jj) fun j=>(listed.setIfInBounds i true).getD j false)=bI (dC ops fr (val jj) fun j=>listed.getD j false) o.dst ((val jj) i):=by
     apply List.ext_getElem?;intro t;rw[cq]
     cases hdst:(o.dst:Option Nat) with
     | none =>
      simp only[bI];rw[cq];refine eB (fun j hj=>?_) _;simp only[hD'];split
      ·rename_i hji;subst hji;rw[ho]at hj;simp[hdst]at hj
      ·rfl
     | some d =>
      simp only[bI]
      have hlen:(dC ops fr (val jj) fun j=>listed.getD j false).length=fr.length:=by simp[dC]
      by_cases hdt:d=t
      ·subst hdt;have hm:=meets d (by simp[ct,hdst])
       have e1:=dH (fr:=fr) (val:=val jj) (D:=fun j=>(listed.setIfInBounds i true).getD j false) (i:=i+1) (t:=d) (fun j hj hdj=>by
        simp only[hD'];split
        ·rfl
        ·exact hm.1 j (by omega) hdj) (fun j hj hdj=>by
        simp only[hD'];rw[if_neg (by omega)]
        exact hm.2 j (by omega) hdj) ops.size (by omega)
       rw[e1];simp only[bZ];by_cases hlt:d<fr.length
       ·rw[if_pos ⟨trivial,by rw[ho];simpa using hdst,hlt⟩,List.getElem?_set_self (by rw[hlen];exact hlt)]
       ·rw[if_neg (by simp[hlt]),List.getElem?_set,if_pos rfl,if_neg (by rw[hlen];exact hlt)];have:=gN (ops:=ops) (fr:=fr) (val:=val jj) (D:=fun _=>true) i d
        cases h:bZ ops fr (val jj) (fun _=>true) i d with
        | none=>rfl
        | some v=>rw[h]at this;simp[hlt]at this
      ·rw[List.getElem?_set_ne hdt,cq];refine eB (fun j hj=>?_) _;simp only[hD'];split
       ·rename_i hji;subst hji;rw[ho]at hj;simp[hdst]at hj;exact absurd hj hdt
       ·rfl
    rw[hnow];exact(hf.step g2).put g3 o.dst
  have sameE:i∉(E jj)→∀k e,(E jj)[k]?=some e→((listed.setIfInBounds i true).getD e false=true↔k<c):=fun hiE k e he=>by
   rw[hD',if_neg (fun h:e=i=>hiE (by rw[←h];exact List.mem_of_getElem? he))];exact hpre k e he
  have hpos:i∉(E jj)→ib (aR [] ops.toList) (E jj) i c=true:=fun hiE=>by
   simp only[ib,List.all_eq_true,List.mem_range];intro k hk;have he:(E jj)[k]?=some (E jj)[k]:=List.getElem?_eq_getElem hk;rw[he];simp only;split
   ·rename_i hkc;have hD:=(hpre k _ he).2 hkc
    cases hb:bef (aR [] ops.toList) i (E jj)[k] with
    | false=>rfl
    | true=>have:=behind _ (hE jj _ (List.getElem_mem hk)) hb;rw[hD]at this;cases this
   ·rename_i hkc
    cases hb:bef (aR [] ops.toList) (E jj)[k] i with
    | false=>rfl
    | true =>
     have:=before _ (fun h=>hiE (h▸List.getElem_mem hk)) hb;exact absurd ((hpre k _ he).1 this) hkc
  have eff:i∈E jj→(E jj).idxOf i=c∧(∀k' e,(E jj)[k']?=some e→((listed.setIfInBounds i true).getD e false=true↔k'<c+1))∧c+1≤(E jj).length:=fun hiE=>by
   have hk:=hj5 hiE;have hkl:=aE hk
   have hidx:(E jj).idxOf i=c:=by
    have h1:=List.idxOf_lt_length_of_mem hiE
    have h2:(E jj)[(E jj).idxOf i]=i:=by simp
    have h3:(E jj)[c]=i:=by rw[List.getElem?_eq_getElem hkl]at hk;exact Option.some.inj hk
    exact(List.getElem_inj (hnd jj)).1 (h2.trans h3.symm)
   refine⟨hidx,fun k' e he=>?_,by omega⟩;rw[hD'];by_cases hei:e=i
   ·subst hei;have hkl':=aE he
    have h2:(E jj)[k']=e:=by rw[List.getElem?_eq_getElem hkl']at he;exact Option.some.inj he
    have h3:(E jj)[c]=e:=by rw[List.getElem?_eq_getElem hkl]at hk;exact Option.some.inj hk
    have:=(List.getElem_inj (hnd jj)).1 (h2.trans h3.symm);simp;omega
   ·rw[if_neg hei,hpre k' e he];constructor
    ·omega
    ·intro h
     rcases Nat.lt_or_ge k' c with h' | h'
     ·exact h'
     ·exfalso
      have hk'c:k'=c:=by omega
      subst hk'c;rw[hk]at he;cases he;exact hei rfl
  have hclause:=hcl jj i o ho;unfold gI at hclause;rw[←hwant]at hclause;unfold wpOp;rw[ho];simp only;split at hclause
  ·
   rename_i hw;rw[eS hf hw];simp only[Bool.false_eq_true,if_false]
   have hiE:i∉(E jj):=by simpa using hclause.2
   exact next hg (Step.refl s) (by rw[hclause.1];exact .tup [] #[] rfl (by simp)) hc hH (sameE hiE)
  ·rename_i hw;rw[eS hf hw];simp only[if_true];left;split at hclause
   ·
    rename_i f args hcall
    have hin2:f∈o.op.operands∧∀x∈args,x∈o.op.operands:=by
     unfold bC at hcall;split at hcall
     ·rename_i cc hoc;split at hcall
      ·rename_i f' hcal;cases hcall;rw[hoc];simp only[Op.operands,Call.operands,hcal];exact⟨by simp,fun x hx=>by simp;exact .inr (by simpa using hx)⟩
      ·cases hcall
     ·cases hcall
    have hf1:aU (ap ops fr (val jj) i) f=aU (dC ops fr (val jj) fun i=>listed.getD i false) f:=(hop f hin2.1).symm
    have hf2:args.map (aU (ap ops fr (val jj) i))=args.map (aU (dC ops fr (val jj) fun i=>listed.getD i false)):=List.map_congr_left fun x hx=>(hop x (hin2.2 x hx)).symm
    split at hclause
    ·rename_i hEi
     have hiE:i∈(E jj):=by simpa using hEi
     obtain⟨hidx,hpre',hcE⟩:=eff hiE;have hcc:=hclause;rw[hidx,←hH]at hcc;rw[hf1,hf2]at hcc;refine gF hcall (hz0.step hs) hg hf hcc (fun u s1 r g1 g2 g3 g4=>?_);obtain⟨rfl,g5⟩:=g4;exact next g1 g2 g3 hcE g5 hpre'
    ·rename_i hEi
     have hiE:i∉(E jj):=by simpa using hEi
     have hcc:=cz hclause c (by simp;omega);rw[if_pos (hpos hiE),←hH]at hcc;rw[hf1,hf2]at hcc;refine gF hcall (hz0.step hs) hg hf hcc (fun u s1 r g1 g2 g3 g4=>?_);obtain⟨rfl,g5⟩:=g4;exact next g1 g2 g3 hc (g5.trans hH) (sameE hiE)
   ·split at hclause
    ·
     rename_i hEi
     have hiE:i∈(E jj):=by simpa using hEi
     obtain⟨hidx,hpre',hcE⟩:=eff hiE;rw[hidx,←kM (ρ:=aU (dC ops fr (val jj) fun i=>listed.getD i false)) hop,←hH]at hclause;obtain⟨nx,s1,k1,k2,k3,k4,k5⟩:=iS (P:=P) hT hg (fun x=>hf.eval x) hclause;unfold Oper.wp;rw[k1]
     rcases k5 with⟨u,rfl,hr⟩ | ⟨rfl,hv⟩
     ·rw[Oper.upon_value];exact next k3 k4 hr hcE k2 hpre'
     ·rw[Oper.upon_skip];exact next k3 k4 (by rw[hv];exact .tup [] #[] rfl (by simp)) hcE k2 hpre'
    ·rename_i hEi
     have hiE:i∉(E jj):=by simpa using hEi
     have hcc:=cz hclause c (by simp;omega);rw[if_pos (hpos hiE),←kM (ρ:=aU (dC ops fr (val jj) fun i=>listed.getD i false)) hop,←hH]at hcc;obtain⟨nx,s1,k1,k2,k3,k4,k5⟩:=iS (P:=P) hT hg (fun x=>hf.eval x) hcc;unfold Oper.wp;rw[k1]
     rcases k5 with⟨u,rfl,hr⟩ | ⟨rfl,hv⟩
     ·rw[Oper.upon_value];exact next k3 k4 hr hc (k2.trans hH) (sameE hiE)
     ·rw[Oper.upon_skip];exact next k3 k4 (by rw[hv];exact .tup [] #[] rfl (by simp)) hc (k2.trans hH) (sameE hiE)
  ·exact hclause.elim
end
def obl2(T:Ty)(ops:Array Oper)(n:Nat)(E1 E2 D:List Nat)(H1 H2:Nat→List B)(K:List V→List B→Prop):List Oper→Nat→List V→List V→Prop
 | [],_,f1,f2=>K f1 (H1 n)∧K f2 (H2 n)
 | o::rest,i,f1,f2 =>
  if E1.contains i=true then
   (match aop T o.op (aU f1) (H1 (E1.idxOf i)),aop T o.op (aU f2) (H2 (E2.idxOf i)) with
    | some (v1,G1),some (v2,G2)=>(G1=H1 (E1.idxOf i+1)∧G2=H2 (E2.idxOf i+1))∧obl2 T ops n E1 E2 D H1 H2 K rest (i+1) (bI f1 o.dst v1) (bI f2 o.dst v2)
    | _,_=>False)
  else(match aop T o.op (aU f1) (H1 0),aop T o.op (aU f2) (H2 0) with
    | some (v1,G1),some (v2,G2)=>((if dv o.op=true then True else ey (fun c=>aop T o.op (aU f1) (H1 c)=some (v1,H1 c)∧aop T o.op (aU f2) (H2 c)=some (v2,H2 c)) (List.range (n+1)))∧(if D.contains i=true then True else v1=v2))∧obl2 T ops n E1 E2 D H1 H2 K rest (i+1) (bI f1 o.dst v1) (bI f2 o.dst v2)
    | _,_=>False)
def stat2K(ops:Array Oper)(E1 E2 D:List Nat):Bool :=
 let ms:=aR [] ops.toList
 iW ops []&&(E1.length == E2.length&&(decide E1.Nodup&&(decide E2.Nodup&&(E1.all (fun e=>E2.contains e&&decide (e<ops.size))&&(E2.all (fun e=>E1.contains e) &&
  ((List.range ops.size).all (fun i=>(match ops[i]? with
    | some o=>o.guard.isNone&&((bC o.op).isNone&&(E1.contains i||bf o.op))
    | none=>true)&&(!D.contains i||E1.any fun e=>i == e||bef ms e i)) &&
  ([(E1,E2),(E2,E1)].all fun p=>(List.range (E1.length+1)).all fun c=>(p.1.drop c).all fun i =>
   (!((p.1.drop c).all fun e=>e == i||!bef ms e i))||(p.1[c]? == some i||(c == 0&&p.2[0]? == some i)))))))))
section
variable {P:Program} {T:Ty}
def Out2(T:Ty)(ops:Array Oper)(n:Nat)(E1 E2 D:List Nat)(H1 H2:Nat→List B)(K:List V→List B→Prop)(C:V→List V→List B→(V→List B→Prop)→Prop)(l:List Oper)(i:Nat)(f1 f2:List V):Prop :=
 ∃vs1 vs2 g1 g2,vs1.length=l.length∧vs2.length=l.length∧bp T ops C (aR [] ops.toList) E1 H1 l i f1 vs1∧bp T ops C (aR [] ops.toList) E2 H2 l i f2 vs2 ∧
    (∀(val:Nat→V) (fr0:List V),(∀k,k<vs1.length→vs1[k]?=some (val (i+k)))→f1=ap ops fr0 val i→g1=ap ops fr0 val ops.size)∧
    (∀(val:Nat→V) (fr0:List V),(∀k,k<vs2.length→vs2[k]?=some (val (i+k)))→f2=ap ops fr0 val i→g2=ap ops fr0 val ops.size)∧
    (∀k,k<l.length→D.contains (i+k)=false→E1.contains (i+k)=false→vs1[k]?=vs2[k]?)∧K g1 (H1 n)∧K g2 (H2 n)
theorem obl2_ok{ops:Array Oper}{n:Nat}{E1 E2 D:List Nat}{H1 H2:Nat→List B}{K:List V→List B→Prop}{C:V→List V→List B→(V→List B→Prop)→Prop}
  (hl1:E1.length=n) (hl2:E2.length=n) (hmem:∀i,E1.contains i=E2.contains i)
  (hst:∀i o,ops[i]?=some o→o.guard=none∧bC o.op=none∧(E1.contains i=false→bf o.op=true)):
  ∀(l:List Oper) (i:Nat) (f1 f2:List V),l=ops.toList.drop i→obl2 T ops n E1 E2 D H1 H2 K l i f1 f2 →
   Out2 T ops n E1 E2 D H1 H2 K C l i f1 f2
 | [],i,f1,f2,hl,h=>by
  have hi:ops.size≤i:=by
   have:=congrArg List.length hl;simp at this;omega
  have hfr:∀(val:Nat→V) (fr0:List V),∀d,ap ops fr0 val (ops.size+d)=ap ops fr0 val ops.size:=fun val fr0 d=>by
   induction d with
   | zero=>rfl
   | succ d ih =>
    rw[show ops.size+(d+1)=(ops.size+d)+1 by omega,ap,Array.getElem?_eq_none (by omega)];exact ih
  obtain⟨d,rfl⟩:=Nat.exists_eq_add_of_le hi;exact⟨[],[],f1,f2,rfl,rfl,trivial,trivial,fun val fr0 _ h=>by rw[h,hfr],fun val fr0 _ h=>by rw[h,hfr],fun k hk=>by simp at hk,h.1,h.2⟩
 | o::rest,i,f1,f2,hl,h=>by
  have ho:ops[i]?=some o:=by
   have:=congrArg (fun l=>l[0]?) hl;simp at this;exact this.symm
  have hrest:rest=ops.toList.drop (i+1):=by
   have:=congrArg List.tail hl;simpa using this
  obtain⟨hg,hc,hs⟩:=hst i o ho
  have hw:∀f,bQ ops f o=some true:=fun f=>by unfold bQ;rw[hg]
  have fin:∀v1 v2,gI T ops C (aR [] ops.toList) E1 H1 o i f1 v1→gI T ops C (aR [] ops.toList) E2 H2 o i f2 v2→(D.contains i=false→E1.contains i=false→v1=v2)→
    obl2 T ops n E1 E2 D H1 H2 K rest (i+1) (bI f1 o.dst v1) (bI f2 o.dst v2)→Out2 T ops n E1 E2 D H1 H2 K C (o::rest) i f1 f2:=fun v1 v2 c1 c2 hd hr=>by
   obtain⟨vs1,vs2,g1,g2,a1,a2,a3,a4,a5,a6,a7,a8,a9⟩:=obl2_ok (C:=C) hl1 hl2 hmem hst rest (i+1) _ _ hrest hr
   have fr:∀(f:List V) (v:V) (vs:List V) (g:List V),(∀(val:Nat→V) (fr0:List V),(∀k,k<vs.length→vs[k]?=some (val (i+1+k)))→bI f o.dst v=ap ops fr0 val (i+1)→g=ap ops fr0 val ops.size)→
     ∀(val:Nat→V) (fr0:List V),(∀k,k<(v::vs).length→(v::vs)[k]?=some (val (i+k)))→f=ap ops fr0 val i→g=ap ops fr0 val ops.size:=fun f v vs g hh val fr0 hv hf=>by
    have hv0:v=val i:=by have:=hv 0 (by simp);simpa using this
    refine hh val fr0 (fun k hk=>?_) ?_
    ·have:=hv (k+1) (by simp;omega);rw[List.getElem?_cons_succ]at this;rw[this,show i+(k+1)=i+1+k by omega]
    ·rw[ap,ho,hv0,hf]
   refine⟨v1::vs1,v2::vs2,g1,g2,by simp[a1],by simp[a2],⟨c1,a3⟩,⟨c2,a4⟩,fr f1 v1 vs1 g1 a5,fr f2 v2 vs2 g2 a6,fun k hk hD hE=>?_,a8,a9⟩
   cases k with
   | zero=>simp only[Nat.add_zero]at hD hE;simp[hd hD hE]
   | succ k =>
    rw[List.getElem?_cons_succ,List.getElem?_cons_succ];exact a7 k (by simpa using hk) (by rw[show i+1+k=i+(k+1) by omega];exact hD) (by rw[show i+1+k=i+(k+1) by omega];exact hE)
  unfold obl2 at h;split at h
  ·rename_i hE;split at h
   ·rename_i v1 G1 v2 G2 q1 q2;obtain⟨⟨rfl,rfl⟩,hr⟩:=h;refine fin v1 v2 ?_ ?_ (fun _ hE'=>by rw[hE]at hE';cases hE') hr
    ·unfold gI;simp only[hw,hc,hE,if_true];exact q1
    ·unfold gI;simp only[hw,hc,hmem i▸hE,if_true];exact q2
   ·exact h.elim
  ·rename_i hE
   have hE:E1.contains i=false:=by simpa using hE
   have hE2:E2.contains i=false:=hmem i▸hE;split at h
   ·rename_i v1 G1 v2 G2 q1 q2;obtain⟨⟨hall,hd⟩,hr⟩:=h
    have each:∀c,c<n+1→aop T o.op (aU f1) (H1 c)=some (v1,H1 c)∧aop T o.op (aU f2) (H2 c)=some (v2,H2 c):=fun c hcl=>by
     split at hall
     ·rename_i hsc;exact⟨jo hsc q1 _,jo hsc q2 _⟩
     ·exact cz hall c (by simpa using hcl)
    refine fin v1 v2 ?_ ?_ (fun hD _=>?_) hr
    ·unfold gI;simp only[hw,hc,hE,Bool.false_eq_true,if_false]
     refine jz.allC_of fun c hcm=>?_
     split
     ·exact(each c (by rw[hl1]at hcm;simpa using hcm)).1
     ·trivial
    ·unfold gI;simp only[hw,hc,hE2,Bool.false_eq_true,if_false]
     refine jz.allC_of fun c hcm=>?_
     split
     ·exact(each c (by rw[hl2]at hcm;simpa using hcm)).2
     ·trivial
    ·rw[hD]at hd;simpa using hd
   ·exact h.elim
theorem W_draw2(hT:TOk P T)(hm:P.follows .mixedOrders=true){id:Nat}{ops:Array Oper}{Q:Exit→List V→List B→Prop}{fr:List V}{H:List B}(E1 E2 D:List Nat)(hs1 hs2:List (List B))(hst:stat2K ops E1 E2 D=true)
  (h:∀(K:List V→List B→Prop),(∀fr H,Q .normal fr H→K fr H)→obl2 T ops E1.length E1 E2 D (fun c=>((H::hs1)[c]?).getD []) (fun c=>((H::hs2)[c]?).getD []) K ops.toList 0 fr fr):W P (.region id ops true) Q fr H:=by
 intro s a hH hg hf hd;obtain⟨rfl,hz0⟩:=hH;have hob:=h (Q .normal) (fun _ _ h=>h);simp only[stat2K,Bool.and_eq_true,beq_iff_eq,decide_eq_true_eq]at hst;obtain⟨t1,t2,t3,t4,t5,t6,t7,t8⟩:=hst
 have m12:∀e∈E1,e∈E2∧e<ops.size:=fun e he=>by have:=List.all_eq_true.1 t5 e he;simpa using this
 have m21:∀e∈E2,e∈E1:=fun e he=>by have:=List.all_eq_true.1 t6 e he;simpa using this
 have hmem:∀i,E1.contains i=E2.contains i:=fun i=>by
  rw[Bool.eq_iff_iff,List.contains_iff_mem,List.contains_iff_mem];exact⟨fun h=>(m12 i h).1,m21 i⟩
 have hops:∀i o,ops[i]?=some o→(o.guard=none∧bC o.op=none∧(E1.contains i=false→bf o.op=true))∧(D.contains i=true→∃e∈E1,i=e∨bef (aR [] ops.toList) e i=true):=fun i o ho=>by
  have hil:=(Array.getElem?_eq_some_iff.1 ho).1;have:=List.all_eq_true.1 t7 i (by simpa using hil);rw[ho]at this;simp only[Bool.and_eq_true,Bool.or_eq_true,Option.isNone_iff_eq_none,Bool.not_eq_true',List.any_eq_true,beq_iff_eq]at this;obtain⟨⟨g1,g2,g3⟩,g4⟩:=this;exact⟨⟨g1,g2,fun hE=>by rcases g3 with g3 | g3;rw[hE]at g3;cases g3;exact g3⟩,fun hD=>by rcases g4 with g4 | g4;rw[hD]at g4;cases g4;exact g4⟩
 obtain⟨vs1,vs2,g1,g2,a1,a2,a3,a4,a5,a6,a7,a8,a9⟩:=obl2_ok (C:=aV P) rfl t2.symm hmem (fun i o ho=>(hops i o ho).1) ops.toList 0 fr fr (by simp) hob
 let val:Bool→Nat→V:=fun b i=>((cond b vs1 vs2)[i]?).getD .undef
 have hv1:∀k,k<vs1.length→vs1[k]?=some (val true (0+k)):=fun k hk=>by simp[val,hk]
 have hv2:∀k,k<vs2.length→vs2[k]?=some (val false (0+k)):=fun k hk=>by simp[val,hk]
 have hc1:=obl_at (fr0:=fr) (val:=val true) ops.toList 0 vs1 (by simp) hv1 a3;have hc2:=obl_at (fr0:=fr) (val:=val false) ops.toList 0 vs2 (by simp) hv2 a4;have hg1:=a5 (val true) fr hv1 rfl;have hg2:=a6 (val false) fr hv2 rfl;refine wp_region_any hm ?_;obtain⟨d1,d2⟩:=fQ hg (w:={ s.w with drawn:=s.w.drawn+1 }) rfl rfl rfl (Nat.le_refl _) (fun _ _=>rfl)
 have hget:∀j,(Array.replicate ops.size false).getD j false=false:=fun j=>by
  rw[Array.getD_eq_getD_getElem?,Array.getElem?_replicate];split<;>rfl
 have hnow:dC ops fr (val true) (fun i=>(Array.replicate ops.size false).getD i false)=fr:=by
  apply List.ext_getElem?;intro t;rw[cq];exact dH (i:=0) (fun j hj=>absurd hj (by omega)) (fun j _ _=>hget j) ops.size (Nat.zero_le _)
 refine drawJ_sound hT hz0 (s0:=s) (E:=fun b=>cond b E1 E2) (val:=val) (Hs:=fun b c=>((s.H::cond b hs1 hs2)[c]?).getD []) t1 ?_ ?_ ?_ ?_ ?_ ?_ ops.size _ (s.at _) a true 0 (by simp) (fun j o _ hj=>by simp only[hget]at hj;cases hj) ?_ (Nat.zero_le _) (fun k e _=>by rw[hget];simp) d1 d2 rfl (by rw[hnow];exact hf.step d2) hd
 ·intro j e he
  cases j with
  | true=>exact(m12 e he).2
  | false=>exact(m12 e (m21 e he)).2
 ·intro j
  cases j with
  | true=>exact t3
  | false=>exact t4
 ·intro j j' e he
  cases j<;>cases j'<;>first | exact he | exact(m12 e he).1 | exact m21 e he
 ·intro j c i hi hbef
  have hcl:c<(cond j E1 E2).length:=by
   have:=List.length_pos_of_mem hi;rw[List.length_drop]at this;omega
  have hlen:(cond j E1 E2).length=E1.length:=by cases j;exact t2.symm;rfl
  have hpair:(cond j E1 E2,cond j E2 E1)∈[(E1,E2),(E2,E1)]:=by cases j<;>simp
  have q:=List.all_eq_true.1 (List.all_eq_true.1 (List.all_eq_true.1 t8 _ hpair) c (by simp;omega)) i hi;simp only[Bool.or_eq_true,Bool.not_eq_true',Bool.and_eq_true,beq_iff_eq]at q
  rcases q with q | q | ⟨rfl,q⟩
  ·exfalso;rw[Bool.eq_false_iff]at q;refine q (List.all_eq_true.2 fun e he=>?_);by_cases hei:e=i
   ·simp[hei]
   ·rw[hbef e he hei];simp
  ·exact⟨j,rfl,rfl,q,rfl,fun _ _=>rfl⟩
  ·refine⟨!j,?_,rfl,?_,?_,fun k hk=>?_⟩
   ·cases j;exact t2;exact t2.symm
   ·cases j<;>exact q
   ·cases j<;>rfl
   ·have hind:∀e∈E1,k≠e∧bef (aR [] ops.toList) e k=false:=fun e he=>hk e (by
     cases j with
     | true=>simpa using he
     | false=>simpa using(m12 e he).1)
    by_cases hkl:k<ops.size
    ·have ho:ops[k]?=some ops[k]:=by simp[hkl]
     have hD:D.contains k=false:=by
      cases hDk:D.contains k with
      | false=>rfl
      | true =>
       obtain⟨e,he,hx⟩:=(hops k _ ho).2 hDk
       rcases hx with hx | hx
       ·exact absurd hx (hind e he).1
       ·rw[(hind e he).2]at hx;cases hx
     have hE:E1.contains k=false:=by
      rw[Bool.eq_false_iff,ne_eq,List.contains_iff_mem]
      exact fun hh=>(hind k hh).1 rfl
     have:=a7 k (by simpa using hkl) (by rw[Nat.zero_add];exact hD) (by rw[Nat.zero_add];exact hE);cases j<;>simp only[val,cond_true,cond_false,Bool.not_true,Bool.not_false,this]
    ·have e1:vs1[k]?=none:=List.getElem?_eq_none (by rw[a1];simpa using Nat.le_of_not_lt hkl);have e2:vs2[k]?=none:=List.getElem?_eq_none (by rw[a2];simpa using Nat.le_of_not_lt hkl);cases j<;>simp only[val,cond_true,cond_false,Bool.not_true,Bool.not_false,e1,e2]
 ·intro j i o ho
  cases j with
  | true=>exact hc1 i o (Nat.zero_le _) ho
  | false=>exact hc2 i o (Nat.zero_le _) ho
 ·intro j s' a' k1 k2 k3 k4 k5
  cases j with
  | true=>exact⟨g1,s',rfl,k1,k2,by rw[hg1];exact k3,k4,by rw[k5];exact a8⟩
  | false=>exact⟨g2,s',rfl,k1,k2,by rw[hg2];exact k3,k4,by rw[k5];show Q .normal g2 (((s.H::hs2)[E2.length]?).getD []);rw[←t2];exact a9⟩
 ·exact Nat.le_trans (List.length_filter_le _ _) (by simp)
end
attribute [simp] obl2
end
end
end Go.AM
namespace Go.Proofs.YteijbpppalhihaaGreat
section
open Go Go.AM
section
structure En where
 v:Vl
 s:Int
def dT(x:En):V:=.agg [.int .i64 x.v.k,.int .i64 x.v.n,.str x.v.s,.int .i64 x.s]
@[simp] theorem encEn_pure (x:En):AM.Pure (dT x):=by simp[dT]
@[simp] theorem encEn_oneV (x:En):dc (dT x)=true:=rfl
theorem ba_beq(c c':ByteArray):(c == c')=true↔c=c':=by
 obtain⟨a⟩:=c;obtain⟨b⟩:=c';show ByteArray.beq ⟨a⟩ ⟨b⟩=true↔_;simp[ByteArray.beq]
def pj(x y:En):Bool:=(x.v.k == y.v.k&&(x.v.n == y.v.n&&(x.v.s == y.v.s)))&&x.s == y.s
theorem fV(x y:En):pj x y=true↔x=y:=by
 unfold pj;obtain⟨⟨a,b,c⟩,d⟩:=x;obtain⟨⟨a',b',c'⟩,d'⟩:=y;simp[and_assoc,ba_beq]
theorem eqEn(H:List B)(k n s:Int)(t:ByteArray)(k' n' s':Int)(t':ByteArray):eZ T H 117 (.agg [.int .i64 k,.int .i64 n,.str t,.int .i64 s]) (.agg [.int .i64 k',.int .i64 n',.str t',.int .i64 s'])=some (pj ⟨⟨k,n,t⟩,s⟩ ⟨⟨k',n',t'⟩,s'⟩):=by
 have h1:∀x y:Int,eqD T 9998 2 (.int .i64 x) (.int .i64 y)=some (x == y):=fun x y=>by simp[eqD]
 have h2:∀x y:Int,eqD T 9998 3 (.int .i64 x) (.int .i64 y)=some (x == y):=fun x y=>by simp[eqD]
 have h2':∀x y:Int,eqD T 9999 3 (.int .i64 x) (.int .i64 y)=some (x == y):=fun x y=>by simp[eqD]
 have h3:∀x y:ByteArray,eqD T 9998 9 (.str x) (.str y)=some (x == y):=fun x y=>by simp[eqD]
 have h4:eqD T 9999 68 (.agg [.int .i64 k,.int .i64 n,.str t]) (.agg [.int .i64 k',.int .i64 n',.str t'])=some (k == k'&&(n == n'&&(t == t'))):=by
  rw[show(9999:Nat)=9998+1 from rfl,eqD];simp only[T_68];simp only[if_true,eqFs,jc,T_2,T_3,T_9,dU,List.getElem?_cons_zero,List.getElem?_cons_succ,Bool.false_eq_true,if_false,h1,h2,h3];cases (k == k')<;>cases (n == n')<;>cases (t == t')<;>simp
 simp only[eZ];rw[show(10000:Nat)=9999+1 from rfl,eqD];simp only[T_117];simp only[if_true,eqFs,jc,T_3,T_68,dU,List.length_cons,List.length_nil,List.drop,List.take,List.getElem?_cons_zero,List.getElem?_cons_succ,Bool.false_eq_true,if_false];simp[h4,h2',pj];cases (k == k')<;>cases (n == n')<;>cases (t == t')<;>cases (s == s')<;>simp
def et(e:Nat→En)(n i:Nat):List V:=(List.range n).map fun a=>dT (e (i*n+a))
def ig(b m n:Nat):List V:=(List.range m).map fun i=>.buf (b+i) 0 n n
theorem eC(e:Nat→En)(n i:Nat):(et e n i).length=n:=by simp[et]
theorem iB(b m n:Nat):(ig b m n).length=m:=by simp[ig]
theorem jL{e:Nat→En}{n i a:Nat}(h:a<(et e n i).length):(et e n i)[a]=dT (e (i*n+a)):=by simp[et]
theorem ot{b m n i:Nat}(h:i<(ig b m n).length):(ig b m n)[i] = .buf (b+i) 0 n n:=by simp[ig]
theorem jt(e:Nat→En)(n i:Nat):∀x∈et e n i,AM.Pure x∧dc x=true:=by
 intro x hx;obtain⟨a,_,rfl⟩:=List.mem_map.1 hx;exact⟨encEn_pure _,rfl⟩
def He(H:List B)(b m n:Nat)(e:Nat→En):List B:=(List.range H.length).map fun k=>if b≤k∧k<b+m then .buf 117 4 (et e n (k-b)) false else(H[k]?).getD (.cells [])
structure EOk (H:List B) (ko b m n:Nat):Prop where
 ho:H[ko]?=some (.buf 115 1 (ig b m n) false)
 lt:b+m≤H.length
 no:ko<b
 rb:∀bl∈H,rbB H.length bl
theorem eX(H:List B)(b m n:Nat)(e:Nat→En):(He H b m n e).length=H.length:=by simp[He]
theorem ke{H:List B}{ko b m n:Nat}(g:EOk H ko b m n)(e:Nat→En){i:Nat}(hi:i<m):(He H b m n e)[b+i]?=some (.buf 117 4 (et e n i) false):=by
 have:=g.lt;unfold He;rw[List.getElem?_map,List.getElem?_range (by omega),Option.map_some,if_pos (by omega),Nat.add_sub_cancel_left]
theorem he_other{H:List B}{b m n:Nat}(e:Nat→En){k:Nat}{x:B}(h:H[k]?=some x)(hk:k<b∨b+m≤k):(He H b m n e)[k]?=some x:=by
 have:=aE h;unfold He;rw[List.getElem?_map,List.getElem?_range (by omega),Option.map_some,if_neg (by omega),h];rfl
theorem he_out{H:List B}{ko b m n:Nat}(g:EOk H ko b m n)(e:Nat→En):(He H b m n e)[ko]?=some (.buf 115 1 (ig b m n) false):=he_other e g.ho (.inl g.no)
theorem he_set{H:List B}{ko b m n:Nat}(g:EOk H ko b m n)(e e':Nat→En){i:Nat}(hi:i<m)(h:∀k a,k<m→a<n→k≠i→e' (k*n+a)=e (k*n+a)):(He H b m n e).set (b+i) (.buf 117 4 (et e' n i) false)=He H b m n e':=by
 have:=g.lt;apply List.ext_getElem?;intro k;by_cases hk:k=b+i
 ·subst hk;rw[List.getElem?_set_self (by rw[eX];omega),ke g e' hi]
 ·rw[List.getElem?_set_ne (Ne.symm hk)];unfold He;rw[List.getElem?_map,List.getElem?_map];by_cases hkl:k<H.length
  ·rw[List.getElem?_range hkl,Option.map_some,Option.map_some];congr 1;split
   ·rename_i hc;congr 1;unfold et
    refine List.map_congr_left fun a ha=>?_
    rw[h (k-b) a (by omega) (by simpa using ha) (by omega)]
   ·rfl
  ·rw[List.getElem?_eq_none (by simp;omega)];rfl
theorem kf{H:List B}{ko b m n:Nat}(g:EOk H ko b m n)(G:List B)(e:Nat→En):He H b m n e++G=He (H++G) b m n e:=by
 have:=g.lt;apply List.ext_getElem?;intro k;by_cases hk:k<H.length
 ·rw[List.getElem?_append_left (by rw[eX];exact hk)];unfold He;rw[List.getElem?_map,List.getElem?_map,List.getElem?_range hk,List.getElem?_range (by simp;omega),Option.map_some,Option.map_some,List.getElem?_append_left hk]
 ·rw[List.getElem?_append_right (by rw[eX];omega),eX];unfold He;rw[List.getElem?_map];by_cases hk2:k<(H++G).length
  ·rw[List.getElem?_range hk2,Option.map_some,if_neg (by omega),List.getElem?_append_right (by omega)]
   have:k-H.length<G.length:=by rw[List.length_append]at hk2;omega
   rw[List.getElem?_eq_getElem this];rfl
  ·rw[List.getElem?_eq_none (by simp at hk2 ⊢;omega),List.getElem?_eq_none (by simp at hk2 ⊢;omega)];rfl
theorem he_rb{H:List B}{ko b m n:Nat}(g:EOk H ko b m n)(e:Nat→En):∀bl∈He H b m n e,rbB (He H b m n e).length bl:=by
 intro bl hbl;rw[eX];obtain⟨k,hk,rfl⟩:=List.mem_map.1 hbl;split
 ·rw[rbB_buf1 (jt e n _)];trivial
 ·have hk:k<H.length:=by simpa using hk
  rw[List.getElem?_eq_getElem hk];exact g.rb _ (List.getElem_mem hk)
theorem EOk.app{H:List B}{ko b m n:Nat}(g:EOk H ko b m n)(G:List B)(hG:∀bl∈G,rbB (H++G).length bl):EOk (H++G) ko b m n:=by
 have h1:=aE g.ho;refine⟨by rw[List.getElem?_append_left h1];exact g.ho,by have:=g.lt;simp;omega,g.no,fun bl hbl=>?_⟩
 rcases List.mem_append.1 hbl with h | h
 ·exact ej (by simp) (g.rb bl h)
 ·exact hG bl h
def AgrN(e:Nat→En)(i k:Nat)(s:Int)(n c:Nat):Prop:=∀a,a<c→ft s a=true→e (i*n+a)=e (k*n+a)
open Classical in
noncomputable def agN(e:Nat→En)(i k:Nat)(s:Int)(n:Nat):Bool:=decide (AgrN e i k s n n)
theorem oK{e:Nat→En}{i k:Nat}{s:Int}{n:Nat} : agN e i k s n=true↔AgrN e i k s n n:=by unfold agN;simp
theorem agree_e{H:List B}{ko b m n:Nat}(g:EOk H ko b m n)(e:Nat→En)(i k:Nat)(s:Int)(hi:i<m)(hk:k<m)(hn:n≤16):
  az Tryz.prog 132 [.buf (b+i) 0 n n,.buf (b+k) 0 n n,.int .u32 s] (He H b m n e) fun r' H'=>r' = .bool (agN e i k s n)∧H'=He H b m n e:=by
 obtain⟨E,hE⟩:∃E,E=agN e i k s n:=⟨_,rfl⟩;rw[←hE];have r1:=ke g e hi;have r2:=ke g e hk;have l1:=eC e n i;have l2:=eC e n k;have hlt:=g.lt
 have hl1:b+i<(He H b m n e).length:=by rw[eX];omega
 have hl2:b+k<(He H b m n e).length:=by rw[eX];omega
 have hrb:=he_rb g e;obtain⟨b1,hb1⟩:∃b1,b1=b+i:=⟨_,rfl⟩;obtain⟨b2,hb2⟩:∃b2,b2=b+k:=⟨_,rfl⟩;rw[←hb1]at r1 hl1 ⊢;rw[←hb2]at r2 hl2 ⊢;refine aD tok Tryz.func132 rfl rfl ?_;refine wx ?_;simp -implicitDefEqProofs -dsimp[Tryz.f132,List.replicate];refine aK (W_loopM 30 [6,7,8,9,10,11,12,13,14,15,16,17,18,19,20,21,22,23,24,25,26,27,28,29] (by simp[mB]<;>rfl) (σ:=Nat) (fun a=>a≤n∧AgrN e i k s n a) (fun a=>n-a) (fun a=>[(7,.int .i64 a)]) (fun _=>He H b m n e) 0 ⟨by omega,fun a ha=>by omega⟩ (by simp) rfl (by simp) ?_);rintro a ⟨ha,hx⟩ N2 Q hN2 hQ;by_cases hb:a<n
 ·have x1:=fun h=>jL (e:=e) (n:=n) (i:=i) (a:=a) h
  have x2:=fun h=>jL (e:=e) (n:=n) (i:=k) (a:=a) h
  obtain⟨p,hp⟩:∃p,p=e (i*n+a):=⟨_,rfl⟩;obtain⟨q,hq⟩:∃q,q=e (k*n+a):=⟨_,rfl⟩;rw[←hp]at x1;rw[←hq]at x2
  cases hh:ft s a with
  | false =>
   refine wx ?_;simp -implicitDefEqProofs -dsimp[r1,l1,hb,dJ,hh,show(a:Int)<32 by omega];refine .inr ⟨aJ (by kernel_rfl),?_⟩;simp -implicitDefEqProofs -dsimp[aM a (by omega)];refine hN2 (a+1) _ _ ⟨by omega,fun c hc1 hc2=>?_⟩ (by omega) (by simp) ⟨[],by simp⟩ (by simp[hl1,hl2]) hrb
   rcases Nat.lt_or_ge c a with h1 | h1
   ·exact hx c h1 hc2
   ·have:c=a:=by omega
    subst this;rw[hh]at hc2;cases hc2
  | true =>
   cases he:pj p q with
   | true =>
    have hpq:=(fV p q).1 he;refine wx ?_;simp -implicitDefEqProofs -dsimp[r1,r2,l1,l2,hb,dJ,hh,show(a:Int)<32 by omega,x1,x2,dT,eqEn,he];refine .inr ⟨aJ (by kernel_rfl),?_⟩;simp -implicitDefEqProofs -dsimp[aM a (by omega)];refine hN2 (a+1) _ _ ⟨by omega,fun c hc1 hc2=>?_⟩ (by omega) (by simp) ⟨[],by simp⟩ (by simp[hl1,hl2]) hrb
    rcases Nat.lt_or_ge c a with h1 | h1
    ·exact hx c h1 hc2
    ·have:c=a:=by omega
     subst this;rw[←hp,←hq];exact hpq
   | false =>
    have hno:agN e i k s n=false:=by
     cases hc:agN e i k s n
     ·rfl
     ·have:=oK.1 hc a hb hh;rw[←hp,←hq]at this;rw[(fV p q).2 this]at he;cases he
    rw[hno]at hE;refine wx ?_;simp -implicitDefEqProofs -dsimp[r1,r2,l1,l2,hb,dJ,hh,show(a:Int)<32 by omega,x1,x2,dT,eqEn,he];refine .inr ⟨aJ (by kernel_rfl),?_⟩;refine hQ _ _ _ ?_;simp -implicitDefEqProofs -dsimp[];exact hE
 ·have hyes:agN e i k s n=true:=oK.2 fun c h1 h2=>hx c (by omega) h2
  rw[hyes]at hE;refine wx ?_;simp -implicitDefEqProofs -dsimp[r1,l1,hb];refine hQ _ _ _ ?_;simp -implicitDefEqProofs -dsimp[];exact hE
open Classical in
noncomputable def bS(e:Nat→En)(old new:En)(c:Nat)(x:Nat):En:=if x<c∧e x=old then new else e x
theorem repTo_zero(e:Nat→En)(old new:En):bS e old new 0=e:=by funext x;unfold bS;rw[if_neg (by omega)]
theorem repTo_at(e:Nat→En)(old new:En)(c:Nat):bS e old new c c=e c:=by unfold bS;rw[if_neg (by omega)]
theorem oe{e:Nat→En}{old new:En}{c x:Nat}(h:x≠c):bS e old new (c+1) x=bS e old new c x:=by
 unfold bS;by_cases hx:x<c
 ·by_cases he:e x=old
  ·rw[if_pos ⟨by omega,he⟩,if_pos ⟨hx,he⟩]
  ·rw[if_neg (fun hh=>he hh.2),if_neg (fun hh=>he hh.2)]
 ·rw[if_neg (fun hh=>by omega),if_neg (fun hh=>hx hh.1)]
theorem repTo_yes{e:Nat→En}{old new:En}{c:Nat}(h:e c=old):bS e old new (c+1) c=new:=by unfold bS;rw[if_pos ⟨by omega,h⟩]
theorem repTo_no{e:Nat→En}{old new:En}{c:Nat}(h:e c≠old):bS e old new (c+1)=bS e old new c:=by
 funext x;by_cases hx:x=c
 ·subst hx;rw[repTo_at];unfold bS;rw[if_neg (fun hh=>h hh.2)]
 ·exact oe hx
theorem rowE_set{e e':Nat→En}{n i k:Nat}{x:En}(hk:k<n)(hx:e' (i*n+k)=x)(h:∀a,a<n→a≠k→e' (i*n+a)=e (i*n+a)):(et e n i).set k (.agg [.int .i64 x.v.k,.int .i64 x.v.n,.str x.v.s,.int .i64 x.s])=et e' n i:=by
 apply List.ext_getElem?;intro a;by_cases ha:a=k
 ·subst ha;rw[List.getElem?_set_self (by rw[eC];exact hk)];simp[et,hk,hx,dT]
 ·rw[List.getElem?_set_ne (Ne.symm ha)];by_cases hal:a<n
  ·simp[et,hal,h a hal ha]
  ·rw[List.getElem?_eq_none (by rw[eC];omega),List.getElem?_eq_none (by rw[eC];omega)]
theorem ju{H:List B}{ko b m n:Nat}(g0:EOk H ko b m n)(e:Nat→En)(old new:En)(hn:n≤16)(hm:m≤1000):
  az Tryz.prog 56 [.buf ko 0 m m,dT old,dT new] (He H b m n e) fun r' H'=>∃G,H'=He H b m n (bS e old new (m*n))++G:=by
 obtain⟨G,hG⟩:∃G,G=[B.cells [.int .i64 old.v.k,.int .i64 old.v.n,.str old.v.s,.int .i64 old.s],B.cells [.int .i64 new.v.k,.int .i64 new.v.n,.str new.v.s,.int .i64 new.s]]:=⟨_,rfl⟩;have g:=g0.app G (by rw[hG];simp)
 have happ:=fun e=>kf g0 G e
 obtain⟨H2,hH2⟩:∃H2,H2=H++G:=⟨_,rfl⟩;rw[←hH2]at g
 have happ2:∀e,He H b m n e++[B.cells [.int .i64 old.v.k,.int .i64 old.v.n,.str old.v.s,.int .i64 old.s],B.cells [.int .i64 new.v.k,.int .i64 new.v.n,.str new.v.s,.int .i64 new.s]]=He H2 b m n e:=fun e=>by rw[hH2,←happ e,hG]
 have hlen:=fun e=>eX H b m n e
 have hlt:=g0.lt;have hlt2:=g.lt
 have hL2:H2.length=H.length+2:=by rw[hH2,hG];simp
 have hx1:∀e,(He H2 b m n e)[H.length]?=some (B.cells [.int .i64 old.v.k,.int .i64 old.v.n,.str old.v.s,.int .i64 old.s]):=fun e=>by
  rw[←happ2 e,List.getElem?_append_right (by rw[hlen];omega),hlen];simp
 have hx2:∀e,(He H2 b m n e)[H.length+1]?=some (B.cells [.int .i64 new.v.k,.int .i64 new.v.n,.str new.v.s,.int .i64 new.s]):=fun e=>by
  rw[←happ2 e,List.getElem?_append_right (by rw[hlen];omega),hlen];simp
 have hout:=fun e=>he_out g e
 have hol:=iB b m n
 have hlenA:=fun e=>eX H2 b m n e
 have hrb:=fun e=>he_rb g e
 have hkl:∀e,ko<(He H2 b m n e).length:=fun e=>by rw[hlenA];have:=g.no;omega
 have hl1:∀e,H.length<(He H2 b m n e).length:=fun e=>by rw[hlenA,hL2];omega
 have hl2:∀e,H.length+1<(He H2 b m n e).length:=fun e=>by rw[hlenA,hL2];omega
 obtain⟨L,hLe⟩:∃L,L=H.length:=⟨_,rfl⟩;rw[←hLe]at hx1 hx2 hl1 hl2 hlen;refine aD tok Tryz.func56 rfl rfl ?_;refine wx ?_;simp -implicitDefEqProofs -dsimp[Tryz.f56,List.replicate,dT,happ2,hlen];refine aK (W_loopM 39 [6,7,8,9,10,11,12,13,14,15,16,17,18,19,20,21,22,23,24,25,26,27,28,29,30,31,32,33,34,35,36,37,38] (by simp[mB]<;>rfl) (σ:=Nat) (fun i=>i≤m) (fun i=>m-i) (fun i=>[(6,.int .i64 i)]) (fun i=>He H2 b m n (bS e old new (i*n))) 0 (by omega) (by simp) (by simp[repTo_zero]) (by simp[hlenA]) ?_);intro i hi N Q hN hQ;by_cases hib:i<m
 ·have hog:=fun h=>ot (b:=b) (m:=m) (n:=n) (i:=i) h
  have hbl:∀e,b+i<(He H2 b m n e).length:=fun e=>by rw[hlenA];omega
  have hrow:=fun e=>ke g e hib
  have hrl:=fun e=>eC e n i
  obtain⟨bi,hbi⟩:∃bi,bi=b+i:=⟨_,rfl⟩;rw[←hbi]at hog hbl hrow
  have hset:∀e' e'':Nat→En,(∀k a,k<m→a<n→k≠i→e'' (k*n+a)=e' (k*n+a))→(He H2 b m n e').set bi (.buf 117 4 (et e'' n i) false)=He H2 b m n e'':=fun e' e'' h=>by rw[hbi];exact he_set g e' e'' hib h
  refine wx ?_;simp -implicitDefEqProofs -dsimp[hout,hol,hib];refine aK (W_loopM 39 [7,14,15,16,17,18,19,20,21,22,23,24,25,26,27,28,29,30,31,32,33,34,35,36,37,38] (by simp[mB]<;>rfl) (σ:=Nat) (fun k=>k≤n) (fun k=>n-k) (fun k=>[(7,.int .i64 k)]) (fun k=>He H2 b m n (bS e old new (i*n+k))) 0 (by omega) (by simp) (by simp) (by simp[hlenA]) ?_);intro k hk N2 Q2 hN2 hQ2;by_cases hkb:k<n
  ·have hlt3:=bB hib hkb;obtain⟨c,hc⟩:∃c,c=i*n+k:=⟨_,rfl⟩
   have hc1:i*n+(k+1)=c+1:=by omega
   have hget:∀(h:k<(et (bS e old new c) n i).length),(et (bS e old new c) n i)[k]=dT (e c):=fun h=>by rw[jL h,←hc,repTo_at]
   rw[←hc];obtain⟨p,hp⟩:∃p,p=e c:=⟨_,rfl⟩;rw[←hp]at hget
   have hother:∀k' a,k'<m→a<n→k'≠i→bS e old new (c+1) (k'*n+a)=bS e old new c (k'*n+a):=fun k' a hk' ha hne=>oe (by
    intro h;rw[hc]at h;have d1:=(oI (i:=k') ha).1;have d2:=(oI (i:=i) hkb).1;rw[h,d2]at d1
    exact hne d1.symm)
   cases hq:pj p old with
   | true =>
    have hpo:e c=old:=by rw[←hp];exact(fV p old).1 hq
    have hrs:=rowE_set (e:=bS e old new c) (e':=bS e old new (c+1)) (n:=n) (i:=i) (k:=k) (x:=new) hkb (by rw[←hc];exact repTo_yes hpo) (fun a ha hne=>oe (by omega));have hst:=hset (bS e old new c) (bS e old new (c+1)) hother;refine wx ?_;simp -implicitDefEqProofs -dsimp[hout,hol,hib,hog,hrow,hrl,hkb,hget,dT,eqEn,hx1,hq];refine .inr ⟨aJ (by kernel_rfl),?_⟩;refine aK (ai tok mixed [7] [] [] (by kernel_rfl) fun C K hC hK=>?_);simp -implicitDefEqProofs [hout,hol,hib,hog,hrow,hrl,hkb,hget,dT,hx2,hrs,hst];refine hK _ _ ?_;simp -implicitDefEqProofs -dsimp[aM k (by omega)];refine hN2 (k+1) _ _ (by omega) (by omega) (by simp) ⟨[],by rw[hc1];simp⟩ (by simp[hkl,hl1,hl2]) (hrb _)
   | false =>
    have hpo:e c≠old:=fun h=>by rw[hp,h]at hq;rw[(fV old old).2 rfl]at hq;cases hq
    have hsame:=repTo_no (new:=new) hpo;refine wx ?_;simp -implicitDefEqProofs -dsimp[hout,hol,hib,hog,hrow,hrl,hkb,hget,dT,eqEn,hx1,hq];refine .inr ⟨aJ (by kernel_rfl),?_⟩;simp -implicitDefEqProofs -dsimp[aM k (by omega)];refine hN2 (k+1) _ _ (by omega) (by omega) (by simp) ⟨[],by rw[hc1,hsame];simp⟩ (by simp[hkl,hl1,hl2]) (hrb _)
  ·obtain rfl:k=n:=by omega
   have hc1:i*k+k=(i+1)*k:=by rw[Nat.add_mul];omega
   refine wx ?_;simp -implicitDefEqProofs -dsimp[hout,hol,hib,hog,hrow,hrl,hkb];refine hQ2 _ _ _ ?_;simp -implicitDefEqProofs -dsimp[aM i (by omega)];refine hN (i+1) _ _ (by omega) (by omega) (by simp) ⟨[],by rw[hc1];simp⟩ (by simp[hkl,hl1,hl2]) (hrb _)
 ·obtain rfl:i=m:=by omega
  refine wx ?_;simp -implicitDefEqProofs -dsimp[hout,hol,hib];refine hQ _ _ _ ?_;simp -implicitDefEqProofs -dsimp[];exact⟨G,by rw[happ,hH2]⟩
def zV:Vl:=⟨0,0,ByteArray.empty⟩
def toD(x:En):Dm:=if x.s=0 then .inl x.v else .inr x.s.toNat
structure EnOk (e:Nat→En) (N S:Nat):Prop where
 lo:∀x,x<N→0≤(e x).s
 hi:∀x,x<N→(e x).s≤S
 z:∀x,x<N→(e x).s≠0→(e x).v=zV
theorem toD_inj{e:Nat→En}{N S:Nat}(h:EnOk e N S){x y:Nat}(hx:x<N)(hy:y<N):toD (e x)=toD (e y)↔e x=e y:=by
 constructor
 ·intro he;unfold toD at he;have l1:=h.lo x hx;have l2:=h.lo y hy;have z1:=h.z x hx;have z2:=h.z y hy;generalize e x=p at *;generalize e y=q at *;obtain⟨v,s⟩:=p;obtain⟨w,r⟩:=q;simp only at *;by_cases hs:s=0
  ·by_cases hr:r=0
   ·rw[if_pos hs,if_pos hr]at he;rw[hs,hr,Sum.inl.inj he]
   ·rw[if_pos hs,if_neg hr]at he;cases he
  ·by_cases hr:r=0
   ·rw[if_neg hs,if_pos hr]at he;cases he
   ·rw[if_neg hs,if_neg hr]at he;have h1:=Sum.inr.inj he;rw[z1 hs,z2 hr,show s=r by omega]
 ·rintro h;rw[h]
theorem step_sem{q:Prob}{e:Nat→En}{S:Nat}(hE:Ent q (fun x=>toD (e x)))(hO:EnOk e (q.m*q.n) S)(hn:q.n≤16){d:Fd}(hd:d∈q.fds)(hb:d.l<4294967296∧d.r<4294967296){i k a:Nat}(hi:i<q.m)(hk:k<i)(hl:AgrN e i k d.l q.n q.n)(ha:a<q.n)(hr:ft d.r a=true):
  ∀σ,Sol q σ→σ (i*q.n+a)=σ (k*q.n+a):=fun σ hσ=>by
 obtain⟨τ,ht⟩:=hE.sem σ hσ;refine hσ.dep d hd i k hi hk (fun b hb1 hb2=>?_) a ha (by rw[eG _ _ hb.2 (by omega)]at hr;exact hr);rw[ht _ (bB hi hb1),ht _ (bB (by omega) hb1),hl b hb1 (by rw[eG _ _ hb.1 (by omega)];exact hb2)]
theorem step_clash{q:Prob}{e:Nat→En}{S:Nat}(hE:Ent q (fun x=>toD (e x))){x y:Nat}(hx:x<q.m*q.n)(hy:y<q.m*q.n)(h1:(e x).s=0)(h2:(e y).s=0)(hne:e x≠e y)(hs:∀σ,Sol q σ→σ x=σ y):¬Okq q:=by
 refine hE.clash hx hy (v:=(e x).v) (w:=(e y).v) (by simp[toD,h1]) (by simp[toD,h2]) (fun h=>hne ?_) hs;generalize e x=p at *;generalize e y=r at *;obtain⟨v,s⟩:=p;obtain⟨w,t⟩:=r;simp only at *;rw[h1,h2,h]
theorem step_rep{q:Prob}{e:Nat→En}{S:Nat}(hE:Ent q (fun x=>toD (e x)))(hO:EnOk e (q.m*q.n) S){x y:Nat}(hx:x<q.m*q.n)(hy:y<q.m*q.n)(hsx:(e x).s≠0)(hne:e x≠e y)(hs:∀σ,Sol q σ→σ x=σ y):
  Ent q (fun z=>toD (bS e (e x) (e y) (q.m*q.n) z))∧EnOk (bS e (e x) (e y) (q.m*q.n)) (q.m*q.n) S∧cntS (q.m*q.n) (S+1) (fun z=>toD (bS e (e x) (e y) (q.m*q.n) z))<cntS (q.m*q.n) (S+1) (fun z=>toD (e z)):=by
 have hex:toD (e x)= .inr (e x).s.toNat:=by simp[toD,hsx]
 have heq:∀z,z<q.m*q.n→toD (bS e (e x) (e y) (q.m*q.n) z)=repE (fun z=>toD (e z)) (e x).s.toNat (toD (e y)) z:=fun z hz=>by
  unfold bS repE;by_cases hzx:e z=e x
  ·rw[if_pos ⟨hz,hzx⟩,if_pos (by show toD (e z)=_;rw[hzx,hex])]
  ·rw[if_neg (fun h=>hzx h.2),if_neg (fun h=>hzx ((toD_inj hO hz hx).1 (h.trans hex.symm)))]
 have hrep:=hE.rep hx hy hex hs;refine⟨?_,?_,?_⟩
 ·refine⟨fun z v hz hk=>by rw[heq z hz];exact hrep.fix z v hz hk,fun σ hσ=>?_⟩;obtain⟨τ,ht⟩:=hrep.sem σ hσ;exact⟨τ,fun z hz=>by rw[ht z hz,←heq z hz]⟩
 ·refine⟨fun z hz=>?_,fun z hz=>?_,fun z hz=>?_⟩<;>unfold bS<;>split
  ·exact hO.lo y hy
  ·exact hO.lo z hz
  ·exact hO.hi y hy
  ·exact hO.hi z hz
  ·exact hO.z y hy
  ·exact hO.z z hz
 ·have hc:=cntS_rep (N:=q.m*q.n) (S:=S+1) (s:=(e x).s.toNat) (e:=fun z=>toD (e z)) (x0:=x) (y0:=y) hx hy hex (fun h=>hne ((toD_inj hO hx hy).1 (hex.trans h.symm))) (by have:=hO.hi x hx;omega);refine Nat.lt_of_le_of_lt (Nat.le_of_eq ?_) hc;unfold cntS;congr 1
  refine List.filter_congr fun s _=>?_
  unfold hasSym;refine decide_eq_decide.2 ?_;constructor
  ·rintro⟨z,hz,h⟩;exact⟨z,hz,(heq z hz).symm.trans h⟩
  ·rintro⟨z,hz,h⟩;exact⟨z,hz,(heq z hz).trans h⟩
def ClsN(q:Prob)(e:Nat→En)(d:Fd)(i k:Nat):Prop:=AgrN e i k d.l q.n q.n→AgrN e i k d.r q.n q.n
theorem closedE_of{q:Prob}{e:Nat→En}{S:Nat}(hO:EnOk e (q.m*q.n) S)(hn:q.n≤16)(hd:∀d∈q.fds,d.l<4294967296∧d.r<4294967296)(h:∀d∈q.fds,∀i k,i<q.m→k<i→ClsN q e d i k):oL q (fun x=>toD (e x)):=fun d hd1 i k hi hk hl a ha hb=>by
 have:=h d hd1 i k hi hk (fun c hc1 hc2=>?_) a ha (by rw[eG _ _ (hd d hd1).2 (by omega)];exact hb)
 ·show toD _=toD _;rw[this]
 ·exact(toD_inj hO (bB hi hc1) (bB (by omega) hc1)).1 (hl c hc1 (by rw[eG _ _ (hd d hd1).1 (by omega)]at hc2;exact hc2))
def StepR(q:Prob)(H:List B)(b:Nat)(S:Nat)(e:Nat→En)(r:V)(H':List B):Prop :=
 (r = .int .i64 0∧oL q (fun x=>toD (e x))∧∃G,H'=He H b q.m q.n e++G)∨(r = .int .i64 (-1)∧¬Okq q)∨
 (r = .int .i64 1∧∃e' G,H'=He H b q.m q.n e'++G∧Ent q (fun x=>toD (e' x))∧EnOk e' (q.m*q.n) S∧cntS (q.m*q.n) (S+1) (fun x=>toD (e' x))<cntS (q.m*q.n) (S+1) (fun x=>toD (e x)))
theorem fq(s:Int)(a:Nat):(IntKind.u32.wrap ↑((s.fdiv (2^min a IntKind.u32.bits) % 2^IntKind.u32.bits).toNat &&& 1 % 2^IntKind.u32.bits)== 0)= !ft s a:=by
 unfold ft;have h4:(1 % 2^IntKind.u32.bits:Nat)=1:=rfl;rw[h4,Nat.and_one_is_mod,u32w _ (by omega)];have:=Nat.mod_two_eq_zero_or_one (s.fdiv (2^min a IntKind.u32.bits) % 2^IntKind.u32.bits).toNat
 rcases this with h | h<;>rw[h]<;>rfl
theorem r5:List.range 5=[0,1,2,3,4]:=rfl
theorem ia1:List.idxOf 14 [14,15,16,17]=0:=rfl
theorem ia2:List.idxOf 15 [14,15,16,17]=1:=rfl
theorem ia3:List.idxOf 16 [14,15,16,17]=2:=rfl
theorem ia4:List.idxOf 17 [14,15,16,17]=3:=rfl
theorem ib1:List.idxOf 14 [15,14,16,17]=1:=rfl
theorem ib2:List.idxOf 15 [15,14,16,17]=0:=rfl
theorem ib3:List.idxOf 16 [15,14,16,17]=2:=rfl
theorem ib4:List.idxOf 17 [15,14,16,17]=3:=rfl
theorem step_r{q:Prob}{H:List B}{ko b m n S:Nat}(hme:q.m=m)(hne:q.n=n)(g:EOk H ko b m n)(e:Nat→En)(hE:Ent q (fun x=>toD (e x)))(hO:EnOk e (q.m*q.n) S)(hn:n≤16)(hm:m≤1000)(ff:Bool)(hF:bo q.fds):
  az Tryz.prog 91 [.buf ko 0 m m,LF ff q.fds] (He H b m n e) (StepR q H b S e):=by
 obtain⟨hF1,hF2⟩:=hF;have hclo:=closedE_of hO (by omega) hF2;obtain⟨fds,hfds⟩:∃fds,fds=q.fds:=⟨_,rfl⟩;have hout:=he_out g e;have hol:=iB b m n;have hlenA:=eX H b m n e;have hrb:=he_rb g e;have hlt:=g.lt
 have hkl:ko<(He H b m n e).length:=by rw[hlenA];have:=g.no;omega
 rw[←hfds]at hF1 hF2 hclo ⊢;refine aD tok Tryz.func91 rfl rfl ?_;refine wx ?_;simp -implicitDefEqProofs -dsimp[Tryz.f91,List.replicate,LF];refine aK (W_loopM 99 [4,5,6,7,8,9,10,11,12,13,14,15,16,17,18,19,20,21,22,23,24,25,26,27,28,29,30,31,32,33,34,35,36,37,38,39,40,41,42,43,44,45,46,47,48,49,50,51,52,53,54,55,56,57,58,59,60,61,62,63,64,65,66,67,68,69,70,71,72,73,74,75,76,77,78,79,80,81,82,83,84,85,86,87,88,89,90,91,92,93,94,95,96,97,98] (by simp[mB]<;>rfl) (σ:=Nat) (fun j=>j≤fds.length∧∀d∈fds.take j,∀i k,i<m→k<i→ClsN q e d i k) (fun j=>fds.length-j) (fun j=>[(5,.int .i64 j)]) (fun _=>He H b m n e) 0 ⟨by omega,by simp⟩ (by simp) rfl (by simp) ?_);rintro j ⟨hj,hx⟩ N Q hN hQ;by_cases hjb:j<fds.length
 ·obtain⟨d,hd⟩:∃d,d=fds[j]:=⟨_,rfl⟩;have hd':=hd.symm;have hdm:d∈fds:=hd▸List.getElem_mem hjb;have hdb:=hF2 d hdm;refine wx ?_;simp -implicitDefEqProofs -dsimp[hjb];refine aK (W_loopM 99 [4,6,7,8,9,10,17,18,19,20,21,22,23,24,25,26,27,28,29,30,31,32,33,34,35,36,37,38,39,40,41,42,43,44,45,46,47,48,49,50,51,52,53,54,55,56,57,58,59,60,61,62,63,64,65,66,67,68,69,70,71,72,73,74,75,76,77,78,79,80,81,82,83,84,85,86,87,88,89,90,91,92,93,94,95,96,97,98] (by simp[mB]<;>rfl) (σ:=Nat) (fun i=>i≤m∧∀i' k,i'<i→k<i'→ClsN q e d i' k) (fun i=>m-i) (fun i=>[(6,.int .i64 i)]) (fun _=>He H b m n e) 0 ⟨by omega,fun i' k h=>by omega⟩ (by simp) rfl (by simp) ?_);rintro i ⟨hi,hx2⟩ N2 Q2 hN2 hQ2;by_cases hib:i<m
  ·have hog:=fun h=>ot (b:=b) (m:=m) (n:=n) (i:=i) h
   have hrow:=ke g e hib;have hrl:=eC e n i
   have hbl:b+i<(He H b m n e).length:=by rw[hlenA];omega
   refine wx ?_;simp -implicitDefEqProofs -dsimp[hout,hol,hib];refine aK (W_loopM 99 [4,7,8,9,10,23,24,25,26,27,28,29,30,31,32,33,34,35,36,37,38,39,40,41,42,43,44,45,46,47,48,49,50,51,52,53,54,55,56,57,58,59,60,61,62,63,64,65,66,67,68,69,70,71,72,73,74,75,76,77,78,79,80,81,82,83,84,85,86,87,88,89,90,91,92,93,94,95,96,97,98] (by simp[mB]<;>rfl) (σ:=Nat) (fun k=>k≤i∧∀k',k'<k→ClsN q e d i k') (fun k=>i-k) (fun k=>[(7,.int .i64 k)]) (fun _=>He H b m n e) 0 ⟨by omega,fun k h=>by omega⟩ (by simp) rfl (by simp) ?_);rintro k ⟨hk,hx3⟩ N3 Q3 hN3 hQ3;by_cases hkb:k<i
   ·have hkm:k<m:=by omega
    have hog2:=fun h=>ot (b:=b) (m:=m) (n:=n) (i:=k) h
    have hrow2:=ke g e hkm;have hrl2:=eC e n k
    have hbl2:b+k<(He H b m n e).length:=by rw[hlenA];omega
    have ca:=agree_e g e i k (d.l:Int) hib hkm hn
    cases ha1:agN e i k d.l n with
    | false =>
     rw[ha1]at ca;refine wx ?_;simp -implicitDefEqProofs -dsimp[hkb,hout,hol,hib,hkm,hog,hog2,hjb,hd',eP];refine .inr ⟨aJ (by kernel_rfl),?_⟩;refine aj _ ca ?_;simp -implicitDefEqProofs -dsimp[aM k (by omega)];refine hN3 (k+1) _ _ ⟨by omega,fun k' hk'=>?_⟩ (by omega) (by simp) ⟨[],by simp⟩ (by simp[hkl]) hrb
     rcases Nat.lt_or_ge k' k with h1 | h1
     ·exact hx3 k' h1
     ·have:k'=k:=by omega
      subst this;intro hy;rw[hne]at hy;rw[oK.2 hy]at ha1;cases ha1
    | true =>
     rw[ha1]at ca;have hag:=oK.1 ha1;refine wx ?_;simp -implicitDefEqProofs -dsimp[hkb,hout,hol,hib,hkm,hog,hog2,hjb,hd',eP];refine .inr ⟨aJ (by kernel_rfl),?_⟩;refine aj _ ca ?_;simp -implicitDefEqProofs -dsimp[];refine aK (W_loopM 99 [4,8,9,10,43,44,45,46,47,48,49,50,51,52,53,54,55,56,57,58,59,60,61,62,63,64,65,66,67,68,69,70,71,72,73,74,75,76,77,78,79,80,81,82,83,84,85,86,87,88,89,90,91,92,93,94,95,96,97,98] (by simp[mB]<;>rfl) (σ:=Nat) (fun a=>a≤n∧AgrN e i k d.r n a) (fun a=>n-a) (fun a=>[(8,.int .i64 a)]) (fun _=>He H b m n e) 0 ⟨by omega,fun a h=>by omega⟩ (by simp) rfl (by simp) ?_);rintro a ⟨ha,hx4⟩ N4 Q4 hN4 hQ4;by_cases hab:a<n
     ·have x1:=fun h=>jL (e:=e) (n:=n) (i:=i) (a:=a) h
      have x2:=fun h=>jL (e:=e) (n:=n) (i:=k) (a:=a) h
      obtain⟨p,hp⟩:∃p,p=e (i*n+a):=⟨_,rfl⟩;obtain⟨r,hr⟩:∃r,r=e (k*n+a):=⟨_,rfl⟩;rw[←hp]at x1;rw[←hr]at x2
      have ho1:∀G,(He H b m n e++G)[ko]?=some (B.buf 115 1 (ig b m n) false):=fun G=>by rw[List.getElem?_append_left hkl];exact hout
      have ho2:∀G,(He H b m n e++G)[b+i]?=some (B.buf 117 4 (et e n i) false):=fun G=>by rw[List.getElem?_append_left hbl];exact hrow
      have ho3:∀G,(He H b m n e++G)[b+k]?=some (B.buf 117 4 (et e n k) false):=fun G=>by rw[List.getElem?_append_left hbl2];exact hrow2
      refine wx ?_;simp -implicitDefEqProofs -dsimp[hout,hol,hib,hog,hrow,hrl,hab]
      refine aK (W_draw2 tok mixed [14,15,16,17] [15,14,16,17] []
       [He H b m n e++[.cells [.int .i64 0,.int .i64 0,.str ByteArray.empty,.int .i64 0]],He H b m n e++[.cells [.int .i64 0,.int .i64 0,.str ByteArray.empty,.int .i64 0],.cells [.int .i64 0,.int .i64 0,.str ByteArray.empty,.int .i64 0]],
        He H b m n e++[.cells [.int .i64 p.v.k,.int .i64 p.v.n,.str p.v.s,.int .i64 p.s],.cells [.int .i64 0,.int .i64 0,.str ByteArray.empty,.int .i64 0]],He H b m n e++[.cells [.int .i64 p.v.k,.int .i64 p.v.n,.str p.v.s,.int .i64 p.s],.cells [.int .i64 r.v.k,.int .i64 r.v.n,.str r.v.s,.int .i64 r.s]]]
       [He H b m n e++[.cells [.int .i64 0,.int .i64 0,.str ByteArray.empty,.int .i64 0]],He H b m n e++[.cells [.int .i64 0,.int .i64 0,.str ByteArray.empty,.int .i64 0],.cells [.int .i64 0,.int .i64 0,.str ByteArray.empty,.int .i64 0]],
        He H b m n e++[.cells [.int .i64 0,.int .i64 0,.str ByteArray.empty,.int .i64 0],.cells [.int .i64 p.v.k,.int .i64 p.v.n,.str p.v.s,.int .i64 p.s]],He H b m n e++[.cells [.int .i64 r.v.k,.int .i64 r.v.n,.str r.v.s,.int .i64 r.s],.cells [.int .i64 p.v.k,.int .i64 p.v.n,.str p.v.s,.int .i64 p.s]]]
       (by kernel_rfl) fun K hK=>?_)
      simp -implicitDefEqProofs [hout,hol,hib,hkm,hog,hog2,hrow,hrow2,hrl,hrl2,hab,x1,x2,ho1,ho2,ho3,dT,hlenA,r5,ia1,ia2,ia3,ia4,ib1,ib2,ib3,ib4];obtain⟨L,hL⟩:∃L,L=H.length:=⟨_,rfl⟩;rw[←hL]at hlenA ⊢;obtain⟨P4,hP4⟩:∃P4,P4=B.cells [.int .i64 p.v.k,.int .i64 p.v.n,.str p.v.s,.int .i64 p.s]:=⟨_,rfl⟩;obtain⟨R4,hR4⟩:∃R4,R4=B.cells [.int .i64 r.v.k,.int .i64 r.v.n,.str r.v.s,.int .i64 r.s]:=⟨_,rfl⟩
      have y1:(He H b m n e++[P4,R4])[L]?=some (B.cells [.int .i64 p.v.k,.int .i64 p.v.n,.str p.v.s,.int .i64 p.s]):=by rw[List.getElem?_append_right (by omega),hlenA,hP4];simp
      have y2:(He H b m n e++[P4,R4])[L+1]?=some (B.cells [.int .i64 r.v.k,.int .i64 r.v.n,.str r.v.s,.int .i64 r.s]):=by rw[List.getElem?_append_right (by omega),hlenA,hR4];simp
      have y3:(He H b m n e++[R4,P4])[L+1]?=some (B.cells [.int .i64 p.v.k,.int .i64 p.v.n,.str p.v.s,.int .i64 p.s]):=by rw[List.getElem?_append_right (by omega),hlenA,hP4];simp
      have y4:(He H b m n e++[R4,P4])[L]?=some (B.cells [.int .i64 r.v.k,.int .i64 r.v.n,.str r.v.s,.int .i64 r.s]):=by rw[List.getElem?_append_right (by omega),hlenA,hR4];simp
      have rbP:∀k,rbB k P4:=fun k=>by rw[hP4];simp
      have rbR:∀k,rbB k R4:=fun k=>by rw[hR4];simp
      rw[←hP4,←hR4]
      have again:(ft (d.r:Int) a=true→p=r)→AgrN e i k d.r n (a+1):=fun h c hc1 hc2=>by
       rcases Nat.lt_or_ge c a with h1 | h1
       ·exact hx4 c h1 hc2
       ·have:c=a:=by omega
        subst this;rw[←hp,←hr];exact h hc2
      cases hh:ft (d.r:Int) a with
      | false =>
       have hag2:=again (fun h=>by rw[hh]at h;cases h);refine⟨hK _ _ ?_,hK _ _ ?_⟩
       all_goals
        simp -implicitDefEqProofs -dsimp[hjb,hd',eP,fq,hh,show(a:Int)<32 by omega,aM a (by omega)];refine hN4 (a+1) _ _ ⟨by omega,hag2⟩ (by omega) (by simp) ⟨_,rfl⟩ (by simp[hkl,hbl,hbl2]) hrb
      | true =>
       cases heq:pj p r with
       | true =>
        have hag2:=again (fun _=>(fV p r).1 heq);refine⟨hK _ _ ?_,hK _ _ ?_⟩
        all_goals
         simp -implicitDefEqProofs -dsimp[hjb,hd',eP,fq,hh,show(a:Int)<32 by omega,y1,y2,y3,y4,eqEn,heq,aM a (by omega)];refine hN4 (a+1) _ _ ⟨by omega,hag2⟩ (by omega) (by simp) ⟨_,rfl⟩ (by simp[hkl,hbl,hbl2]) hrb
       | false =>
        have hpr:e (i*n+a)≠e (k*n+a):=fun h=>by
         rw[hp,hr,(fV _ _).2 h]at heq;cases heq
        have li:=bB hib hab;have lk:=bB hkm hab;have hsem:=step_sem hE hO (by omega) (hfds▸hdm) hdb (show i<q.m by omega) hkb (by rw[hne];exact hag) (by rw[hne];exact hab) hh;rw[hne]at hsem
        have hq1:i*n+a<q.m*q.n:=by rw[hme,hne];exact li
        have hq2:k*n+a<q.m*q.n:=by rw[hme,hne];exact lk
        by_cases s1:p.s=0
        ·by_cases s2:r.s=0
         ·have z1:(p.s == 0)=true:=by simp[s1]
          have z2:(r.s == 0)=true:=by simp[s2]
          have hno:=step_clash hE (S:=S) hq1 hq2 (by rw[←hp];exact s1) (by rw[←hr];exact s2) hpr hsem;refine⟨hK _ _ ?_,hK _ _ ?_⟩
          all_goals
           simp -implicitDefEqProofs -dsimp[hjb,hd',eP,fq,hh,show(a:Int)<32 by omega,y1,y2,y3,y4,eqEn,heq,z1,z2];refine hQ4 _ _ _ ?_;simp -implicitDefEqProofs -dsimp[];refine hQ3 _ _ _ ?_;simp -implicitDefEqProofs -dsimp[];refine hQ2 _ _ _ ?_;simp -implicitDefEqProofs -dsimp[];refine hQ _ _ _ ?_;simp -implicitDefEqProofs -dsimp[];exact .inr (.inl ⟨rfl,hno⟩)
         ·have z1:(p.s == 0)=true:=by simp[s1]
          have z2:(r.s == 0)=false:=by simp[s2]
          have hrep:=step_rep hE hO hq2 hq1 (by rw[←hr];exact s2) (fun h=>hpr h.symm) (fun σ hσ=>(hsem σ hσ).symm);rw[hme,hne,←hp,←hr]at hrep;have c1:=ju (g.app [P4,R4] (by simp[↓rbP,↓rbR])) e r p hn hm;have c2:=ju (g.app [R4,P4] (by simp[↓rbP,↓rbR])) e r p hn hm;rw[←kf g]at c1 c2
          have a1:=fun G=>congrArg (·++G) (kf g [P4,R4] (bS e r p (m*n))).symm
          have a2:=fun G=>congrArg (·++G) (kf g [R4,P4] (bS e r p (m*n))).symm
          simp only[dT]at c1 c2;refine⟨hK _ _ ?_,hK _ _ ?_⟩
          ·simp -implicitDefEqProofs -dsimp[hjb,hd',eP,fq,hh,show(a:Int)<32 by omega,y1,y2,eqEn,heq,z1,z2];refine aV.mono (K:=fun r' H'=>∃G,H'=He (H++[P4,R4]) b m n (bS e r p (m*n))++G) c1 ?_;rintro r' H' ⟨G,rfl⟩;simp -implicitDefEqProofs -dsimp[];refine hQ4 _ _ _ ?_;simp -implicitDefEqProofs -dsimp[];refine hQ3 _ _ _ ?_;simp -implicitDefEqProofs -dsimp[];refine hQ2 _ _ _ ?_;simp -implicitDefEqProofs -dsimp[];refine hQ _ _ _ ?_;simp -implicitDefEqProofs -dsimp[];exact .inr (.inr ⟨rfl,_,_,by rw[hme,hne];exact(a1 G).trans (List.append_assoc _ _ _),by simpa only[hme,hne] using hrep⟩)
          ·simp -implicitDefEqProofs -dsimp[hjb,hd',eP,fq,hh,show(a:Int)<32 by omega,y3,y4,eqEn,heq,z1,z2];refine aV.mono (K:=fun r' H'=>∃G,H'=He (H++[R4,P4]) b m n (bS e r p (m*n))++G) c2 ?_;rintro r' H' ⟨G,rfl⟩;simp -implicitDefEqProofs -dsimp[];refine hQ4 _ _ _ ?_;simp -implicitDefEqProofs -dsimp[];refine hQ3 _ _ _ ?_;simp -implicitDefEqProofs -dsimp[];refine hQ2 _ _ _ ?_;simp -implicitDefEqProofs -dsimp[];refine hQ _ _ _ ?_;simp -implicitDefEqProofs -dsimp[];exact .inr (.inr ⟨rfl,_,_,by rw[hme,hne];exact(a2 G).trans (List.append_assoc _ _ _),by simpa only[hme,hne] using hrep⟩)
        ·have z1:(p.s == 0)=false:=by simp[s1]
         have z2:True:=trivial;have hrep:=step_rep hE hO hq1 hq2 (by rw[←hp];exact s1) hpr hsem;rw[hme,hne,←hp,←hr]at hrep;have c1:=ju (g.app [P4,R4] (by simp[↓rbP,↓rbR])) e p r hn hm;have c2:=ju (g.app [R4,P4] (by simp[↓rbP,↓rbR])) e p r hn hm;rw[←kf g]at c1 c2
         have a1:=fun G=>congrArg (·++G) (kf g [P4,R4] (bS e p r (m*n))).symm
         have a2:=fun G=>congrArg (·++G) (kf g [R4,P4] (bS e p r (m*n))).symm
         simp only[dT]at c1 c2;refine⟨hK _ _ ?_,hK _ _ ?_⟩
         ·simp -implicitDefEqProofs -dsimp[hjb,hd',eP,fq,hh,show(a:Int)<32 by omega,y1,y2,eqEn,heq,z1,z2];refine aV.mono (K:=fun r' H'=>∃G,H'=He (H++[P4,R4]) b m n (bS e p r (m*n))++G) c1 ?_;rintro r' H' ⟨G,rfl⟩;simp -implicitDefEqProofs -dsimp[];refine hQ4 _ _ _ ?_;simp -implicitDefEqProofs -dsimp[];refine hQ3 _ _ _ ?_;simp -implicitDefEqProofs -dsimp[];refine hQ2 _ _ _ ?_;simp -implicitDefEqProofs -dsimp[];refine hQ _ _ _ ?_;simp -implicitDefEqProofs -dsimp[];exact .inr (.inr ⟨rfl,_,_,by rw[hme,hne];exact(a1 G).trans (List.append_assoc _ _ _),by simpa only[hme,hne] using hrep⟩)
         ·simp -implicitDefEqProofs -dsimp[hjb,hd',eP,fq,hh,show(a:Int)<32 by omega,y3,y4,eqEn,heq,z1,z2];refine aV.mono (K:=fun r' H'=>∃G,H'=He (H++[R4,P4]) b m n (bS e p r (m*n))++G) c2 ?_;rintro r' H' ⟨G,rfl⟩;simp -implicitDefEqProofs -dsimp[];refine hQ4 _ _ _ ?_;simp -implicitDefEqProofs -dsimp[];refine hQ3 _ _ _ ?_;simp -implicitDefEqProofs -dsimp[];refine hQ2 _ _ _ ?_;simp -implicitDefEqProofs -dsimp[];refine hQ _ _ _ ?_;simp -implicitDefEqProofs -dsimp[];exact .inr (.inr ⟨rfl,_,_,by rw[hme,hne];exact(a2 G).trans (List.append_assoc _ _ _),by simpa only[hme,hne] using hrep⟩)
     ·obtain rfl:a=n:=by omega
      refine wx ?_;simp -implicitDefEqProofs -dsimp[hout,hol,hib,hog,hrow,hrl,hab];refine hQ4 _ _ _ ?_;simp -implicitDefEqProofs -dsimp[aM k (by omega)];refine hN3 (k+1) _ _ ⟨by omega,fun k' hk'=>?_⟩ (by omega) (by simp) ⟨[],by simp⟩ (by simp[hkl]) hrb
      rcases Nat.lt_or_ge k' k with h1 | h1
      ·exact hx3 k' h1
      ·have:k'=k:=by omega
       subst this;intro _;rw[hne];exact hx4
   ·obtain rfl:k=i:=by omega
    refine wx ?_;simp -implicitDefEqProofs -dsimp[hkb];refine hQ3 _ _ _ ?_;simp -implicitDefEqProofs -dsimp[aM k (by omega)];refine hN2 (k+1) _ _ ⟨by omega,fun i' k' hi' hk'=>?_⟩ (by omega) (by simp) ⟨[],by simp⟩ (by simp[hkl]) hrb
    rcases Nat.lt_or_ge i' k with h1 | h1
    ·exact hx2 i' k' h1 hk'
    ·have:i'=k:=by omega
     subst this;exact hx3 k' hk'
  ·obtain rfl:i=m:=by omega
   refine wx ?_;simp -implicitDefEqProofs -dsimp[hout,hol,hib];refine hQ2 _ _ _ ?_;simp -implicitDefEqProofs -dsimp[aM j (by omega)];refine hN (j+1) _ _ ⟨by omega,fun d' hd'=>?_⟩ (by omega) (by simp) ⟨[],by simp⟩ (by simp[hkl]) hrb;rw[List.take_succ_eq_append_getElem hjb]at hd'
   rcases List.mem_append.1 hd' with h1 | h1
   ·exact hx d' h1
   ·simp only[List.mem_singleton]at h1;rw[h1,←hd];exact hx2
 ·obtain rfl:j=fds.length:=by omega
  rw[List.take_length]at hx;refine wx ?_;simp -implicitDefEqProofs -dsimp[hjb];refine hQ _ _ _ ?_;simp -implicitDefEqProofs -dsimp[];exact .inl ⟨rfl,hclo (by rw[hme];exact hx),[],by rw[hme,hne,List.append_nil]⟩
open Classical in
noncomputable def dj(t:Tb)(l:List Cr):Nat→Nat
 | 0=>0
 | x+1=>if bN t x∈l then dj t l x+1 else dj t l x
theorem pr(t:Tb)(l:List Cr):∀x,dj t l x≤x
 | 0=>Nat.le_refl _
 | x+1=>by
  have:=pr t l x;rw[dj];split<;>omega
theorem pq(t:Tb)(l:List Cr){x y:Nat}(h:x≤y):dj t l x≤dj t l y:=by
 induction y with
 | zero =>
  have:x=0:=by omega
  subst this;exact Nat.le_refl _
 | succ y ih =>
  rcases Nat.lt_or_ge x (y+1) with h1 | h1
  ·have:=ih (by omega);rw[dj];split<;>omega
  ·have:x=y+1:=by omega
   subst this;exact Nat.le_refl _
open Classical in
noncomputable def e0(t:Tb)(l:List Cr)(x:Nat):En:=if bN t x∈l then⟨zV,(dj t l x+1:Nat)⟩ else⟨bL t x,0⟩
theorem nT{t:Tb}{l:List Cr}{x:Nat}(h:bN t x∈l):e0 t l x=⟨zV,((dj t l x+1:Nat):Int)⟩∧dj t l (x+1)=dj t l x+1:=by
 unfold e0;rw[if_pos h,dj,if_pos h];exact⟨rfl,rfl⟩
theorem mo{t:Tb}{l:List Cr}{x:Nat}(h:bN t x∉l):e0 t l x=⟨bL t x,0⟩∧dj t l (x+1)=dj t l x:=by
 unfold e0;rw[if_neg h,dj,if_neg h];exact⟨rfl,rfl⟩
theorem e0_ok(t:Tb)(l:List Cr)(N:Nat):EnOk (e0 t l) N N:=by
 refine⟨fun x hx=>?_,fun x hx=>?_,fun x hx=>?_⟩<;>by_cases h:bN t x∈l
 ·rw[(nT h).1];simp only;omega
 ·rw[(mo h).1];simp
 ·rw[(nT h).1];simp only;have:=pr t l x;omega
 ·rw[(mo h).1];simp
 ·rw[(nT h).1];intro _;rfl
 ·rw[(mo h).1];intro h2;exact absurd rfl h2
theorem e0_ent(t:Tb)(fds:List Fd)(l:List Cr):Ent (aW t fds l) (fun x=>toD (e0 t l x)):=by
 refine ent_init (fun x v hx hk=>?_) (fun x hx hk=>?_) (fun x y s hx hy h1 h2=>?_)
 ·by_cases h:bN t x∈l
  ·rw[lI h]at hk;cases hk
  ·rw[fT h]at hk;show toD (e0 t l x)=_;rw[(mo h).1];simp[toD,Option.some.inj hk]
 ·by_cases h:bN t x∈l
  ·exact⟨dj t l x+1,by show toD (e0 t l x)=_;rw[(nT h).1];simp[toD];omega⟩
  ·rw[fT h]at hk;cases hk
 ·have key:∀z,toD (e0 t l z)= .inr s→s=dj t l z+1∧bN t z∈l:=fun z hz=>by
   by_cases h:bN t z∈l
   ·rw[(nT h).1]at hz;unfold toD at hz;rw[if_neg (by simp only;omega)]at hz;exact⟨by have:=Sum.inr.inj hz;simp at this;omega,h⟩
   ·rw[(mo h).1]at hz;simp[toD]at hz
  obtain⟨a1,a2⟩:=key x h1;obtain⟨b1,b2⟩:=key y h2
  rcases Nat.lt_trichotomy x y with h | h | h
  ·have:=pq t l (show x+1≤y by omega);have:=(nT a2).2;omega
  ·exact h
  ·have:=pq t l (show y+1≤x by omega);have:=(nT b2).2;omega
theorem eH{xs:List B}{k:Nat}{x:B}(h:xs[k]?=some x):∀hk:k<xs.length,xs[k]=x:=fun hk=>by
 rw[List.getElem?_eq_getElem hk]at h;exact Option.some.inj h
def rowB(e:Nat→En)(n i:Nat):B:=.buf 117 4 (et e n i) false
def outB(i n:Nat):B:=.buf 115 1 (ig 2 i n) false
def jN(e:Nat→En)(n i a:Nat):List V:=(List.range a).map fun c=>dT (e (i*n+c))
theorem parE_succ(e:Nat→En)(n i a:Nat):jN e n i (a+1)=jN e n i a++[dT (e (i*n+a))]:=by simp[jN,List.range_succ]
theorem parE_len(e:Nat→En)(n i a:Nat):(jN e n i a).length=a:=by simp[jN]
theorem outE_succ(b i n:Nat):ig b (i+1) n=ig b i n++[.buf (b+i) 0 n n]:=by simp[ig,List.range_succ]
def HR(tb:B)(e:Nat→En)(n i:Nat):List B:=[tb,outB i n]++(List.range i).map (rowB e n)
theorem eu(tb:B)(e:Nat→En)(n i:Nat):(HR tb e n i).length=2+i:=by simp[HR];omega
theorem hr_0(tb:B)(e:Nat→En)(n i:Nat)(G:List B):(HR tb e n i++G)[0]?=some tb:=by simp[HR]
theorem hr_1(tb:B)(e:Nat→En)(n i:Nat)(G:List B):(HR tb e n i++G)[1]?=some (.buf 115 1 (ig 2 i n) false):=by simp[HR,outB]
theorem hr_00(tb:B)(e:Nat→En)(n i:Nat):(HR tb e n i)[0]?=some tb:=by simp[HR]
theorem hr_11(tb:B)(e:Nat→En)(n i:Nat):(HR tb e n i)[1]?=some (.buf 115 1 (ig 2 i n) false):=by simp[HR,outB]
theorem hr_x(tb:B)(e:Nat→En)(n i:Nat)(X:B):(HR tb e n i++[X])[2+i]?=some X:=by
 rw[List.getElem?_append_right (by rw[eu];omega),eu];simp
theorem hr_sx(tb:B)(e:Nat→En)(n i:Nat)(X Y:B):(HR tb e n i++[X]).set (2+i) Y=HR tb e n i++[Y]:=by
 rw[List.set_append_right _ _ (by rw[eu];omega),eu];simp
theorem hr_next(tb:B)(e:Nat→En)(n i:Nat):(HR tb e n i++[B.buf 117 4 (jN e n i n) false]).set 1 (B.buf 115 1 (ig 2 i n++[V.buf (2+i) 0 n n]) false)=HR tb e n (i+1):=by
 rw[←outE_succ];simp[HR,List.range_succ,outB,rowB,et,jN]
theorem parE_pure(e:Nat→En)(n i a:Nat):∀x∈jN e n i a,AM.Pure x∧dc x=true:=by
 intro x hx;obtain⟨c,_,rfl⟩:=List.mem_map.1 hx;exact⟨encEn_pure _,rfl⟩
theorem hr_rb{tb:B}(hb:∀k,rbB k tb)(e:Nat→En)(n i:Nat):∀bl∈HR tb e n i,rbB (HR tb e n i).length bl:=by
 intro bl hbl;rw[eu];unfold HR at hbl;simp only[List.cons_append,List.nil_append,List.mem_cons,List.mem_map,List.mem_range]at hbl
 rcases hbl with rfl | rfl | ⟨j,hj,rfl⟩
 ·exact hb _
 ·intro x hx c hc;obtain⟨j,hj,rfl⟩:=List.mem_map.1 hx;have hj:=List.mem_range.1 hj;simp[V.cells]at hc;subst hc;show 2+j<2+i;omega
 ·unfold rowB;rw[rbB_buf1 (jt e n _)];trivial
theorem hr_ok{tb:B}(hb:∀k,rbB k tb)(e:Nat→En)(n m:Nat):EOk (HR tb e n m) 1 2 m n:=⟨hr_11 tb e n m,by rw[eu];omega,by omega,hr_rb hb e n m⟩
theorem hr_he{tb:B}(e:Nat→En)(n m:Nat):He (HR tb e n m) 2 m n e=HR tb e n m:=by
 apply List.ext_getElem?;intro k;unfold He;rw[List.getElem?_map,eu];by_cases hk:k<2+m
 ·rw[List.getElem?_range hk,Option.map_some];by_cases h2:2≤k
  ·rw[if_pos ⟨h2,hk⟩];unfold HR;rw[List.getElem?_append_right (by simpa using h2)];simp only[List.length_cons,List.length_nil];rw[List.getElem?_map,List.getElem?_range (by omega)];rfl
  ·rw[if_neg (fun h=>h2 h.1),List.getElem?_eq_getElem (by rw[eu];exact hk)];rfl
 ·rw[List.getElem?_eq_none (by simp;omega),List.getElem?_eq_none (by rw[eu];omega)];rfl
def FilR(q:Prob)(tb:B)(e0:Nat→En)(r:V)(H':List B):Prop :=
 (r = .tup [.nilS,.bool false]∧¬Okq q)∨
 (r = .tup [.buf 1 0 q.m q.m,.bool true]∧∃e G,H'=He (HR tb e0 q.n q.m) 2 q.m q.n e++G∧Ent q (fun x=>toD (e x))∧EnOk e (q.m*q.n) (q.m*q.n)∧oL q (fun x=>toD (e x)))
theorem cap40(n:Nat)(h:n≤1000000000):n≤9223372036854775806∧(n+1)*40≤140737488355328:=by omega
theorem filled_r(t:Tb)(ff gg df cf:Bool)(fds:List Fd)(l:List Cr)(hv:TbV t)(hF:bo fds)(hl:l.length≤1000000):
  az Tryz.prog 45 [aF ff gg t,LF df fds,LC cf l] [] (FilR (aW t fds l) (.cells [.str t.name,.lst 1 ff (t.attrs.map V.str),.lst 2 gg (t.rows.map aN)]) (e0 t l)):=by
 obtain⟨tb,htb⟩:∃tb,tb=B.cells [.str t.name,.lst 1 ff (t.attrs.map V.str),.lst 2 gg (t.rows.map aN)]:=⟨_,rfl⟩
 have hbt:∀k,rbB k tb:=fun k=>by rw[htb];simp
 rw[←htb];have hm:=hv.rows;have hn:=hv.attrs;have hE0:=e0_ent t fds l;have hO0:=e0_ok t l (t.rows.length*t.attrs.length);obtain⟨n,hne⟩:∃n,n=t.attrs.length:=⟨_,rfl⟩;obtain⟨m,hme⟩:∃m,m=t.rows.length:=⟨_,rfl⟩;have hne':=hne.symm;have hme':=hme.symm;rw[hne']at hn;rw[hme']at hm;have hqm:(aW t fds l).m=m:=hme';have hqn:(aW t fds l).n=n:=hne';have hqf:(aW t fds l).fds=fds:=rfl;have hO:EnOk (e0 t l) ((aW t fds l).m*(aW t fds l).n) ((aW t fds l).m*(aW t fds l).n):=hO0;obtain⟨q,hq⟩:∃q,q=aW t fds l:=⟨_,rfl⟩;rw[←hq]at hqm hqn hqf hE0 hO ⊢
 have hb00:=fun e n i=>hr_00 tb e n i
 have hb0:=fun e n i G=>hr_0 tb e n i G
 rw[htb]at hb00 hb0;rw[←htb]at hb00 hb0;have t0:=hr_00 tb (e0 t l) n;have t0':=hr_0 tb (e0 t l) n;rw[show some tb=some (B.cells [.str t.name,.lst 1 ff (t.attrs.map V.str),.lst 2 gg (t.rows.map aN)]) by rw[htb]]at t0 t0';have t1:=hr_11 tb (e0 t l) n;have t1':=hr_1 tb (e0 t l) n;have tl:=eu tb (e0 t l) n
 have t1l:=fun i=>iB 2 i n
 refine aD tok Tryz.func45 rfl rfl ?_;refine wx ?_;simp -implicitDefEqProofs -dsimp[Tryz.f45,List.replicate,aF,LS,LR,LC,LF];refine aK (gG 115 1 [8] (by simp) (W_loopM 61 [8,9,10,11,12,13,14,15,16,17,18,19,20,21,22,23,24,25,26,27,28,29,30,31,32,33,34,35,36,37,38,39,40,41,42,43,44,45,46,47,48,49,50,51,52,53,54,55,56,57,58,59,60] (by simp[mB]<;>rfl) (σ:=Nat×Nat) (fun p=>p.1≤m∧p.2=p.1*n) (fun p=>m-p.1) (fun p=>[(10,.int .i64 p.1),(8,.buf 1 0 p.1 p.1),(9,.int .i64 (dj t l p.2))]) (fun p=>HR tb (e0 t l) n p.1) (0,0) ⟨by simp,by simp⟩ (by simp[dj]) (by simp[HR,outB,ig,htb]) (by simp[tl]) ?_));rintro⟨i,c⟩ ⟨hi,hc⟩ N Q hN hQ;simp only at hi hc hN;by_cases hib:i<m
 ·have hit:i<t.rows.length:=by omega
  obtain⟨rw,hrw⟩:∃rw,rw=t.rows[i]:=⟨_,rfl⟩;have hrw':=hrw.symm
  have hvl:rw.vals.length=n:=by rw[hrw,hne];exact hv.len _ (List.getElem_mem hit)
  refine wx ?_;simp -implicitDefEqProofs -dsimp[t0,hme',hib];refine aK (gG 117 4 [11] (by simp) (W_loopM 57 [9,11,12,20,21,22,23,24,25,26,27,28,29,30,31,32,33,34,35,36,37,38,39,40,41,42,43,44,45,46,47,48,49,50,51,52,53,54,55,56] (by simp[mB]<;>rfl) (σ:=Nat×Nat) (fun p=>p.1≤n∧p.2=i*n+p.1) (fun p=>n-p.1) (fun p=>[(12,.int .i64 p.1),(11,.buf (2+i) 0 p.1 p.1),(9,.int .i64 (dj t l p.2))]) (fun p=>HR tb (e0 t l) n i++[B.buf 117 4 (jN (e0 t l) n i p.1) false]) (0,c) ⟨by simp,by simp[hc]⟩ (by simp[tl]) (by simp[jN]) (by simp[tl]) ?_));rintro⟨a,c2⟩ ⟨ha,hc2⟩ N2 Q2 hN2 hQ2;simp only at ha hc2 hN2
  have hrb2:∀a',∀bl∈HR tb (e0 t l) n i++[B.buf 117 4 (jN (e0 t l) n i a') false],rbB (HR tb (e0 t l) n i++[B.buf 117 4 (jN (e0 t l) n i a') false]).length bl:=fun a' bl hbl=>by
   rcases List.mem_append.1 hbl with h | h
   ·exact ej (by simp) (hr_rb hbt (e0 t l) n i bl h)
   ·simp only[List.mem_singleton]at h;subst h;rw[rbB_buf1 (parE_pure _ _ _ _)];trivial
  have w0:=eH (t0' i [B.buf 117 4 (jN (e0 t l) n i a) false]);have w1:=eH (t1' i [B.buf 117 4 (jN (e0 t l) n i a) false]);have w1x:=eH (hr_x tb (e0 t l) n i (B.buf 117 4 (jN (e0 t l) n i a) false));by_cases hab:a<n
  ·have hlt:=bB hib hab;have hbig:m*n≤1000*16:=Nat.mul_le_mul hm hn
   have hat:bN t c2=⟨rw.id,(a:Int)⟩:=by
    rw[hc2,hne,gS t (hne▸hab),bF hit,←hrw]
   have hva:a<rw.vals.length:=by omega
   have hvt:bL t c2=rw.vals[a]:=by
    rw[hc2,hne,fD t (hne▸hab),bF hit,←hrw,gV hva]
   have hch:=pQ l ⟨rw.id,(a:Int)⟩ cf hl;simp only[LC,aO]at hch;have hx:=hr_x tb (e0 t l) n i (B.buf 117 4 (jN (e0 t l) n i a) false)
   have hsx:=fun Y=>hr_sx tb (e0 t l) n i (B.buf 117 4 (jN (e0 t l) n i a) false) Y
   have hpl:=parE_len (e0 t l) n i a;have hps:=parE_succ (e0 t l) n i a;rw[←hc2]at hps;have hcn:=pr t l c2
   cases hqh:dD l ⟨rw.id,(a:Int)⟩ with
   | true =>
    rw[hqh]at hch;obtain⟨k1,k2⟩:=nT (t:=t) (l:=l) (x:=c2) (by rw[hat];exact bd.1 hqh);rw[k1]at hps;obtain⟨cn,hcn'⟩:∃cn,cn=dj t l c2:=⟨_,rfl⟩;rw[←hcn']at hps k2 hcn;have hcn2:=hcn'.symm;refine wx ?_;simp -implicitDefEqProofs -dsimp[w0,tl,hne',hab,hit,hrw',aN,hcn2];refine(aG (hch) (by simp)).mono ?_;rintro r H' ⟨rfl,rfl⟩;simp -implicitDefEqProofs -dsimp[hcn2,aM cn (by omega),w1x,tl,hx,hsx,hpl,cap40 a (by omega),aM a (by omega)];refine hN2 (a+1,c2+1) _ _ ⟨by simp only;omega,by simp only;omega⟩ (by simp only;omega) (by simp[k2]) ⟨[],by simp[hps,dT,zV]⟩ (by simp[tl,LC];omega) (hrb2 _)
   | false =>
    rw[hqh]at hch;obtain⟨k1,k2⟩:=mo (t:=t) (l:=l) (x:=c2) (by rw[hat];exact fun h=>by rw[bd.2 h]at hqh;cases hqh);rw[k1,hvt]at hps;refine wx ?_;simp -implicitDefEqProofs -dsimp[w0,tl,hne',hab,hit,hrw',aN];refine(aG (hch) (by simp)).mono ?_;rintro r H' ⟨rfl,rfl⟩;simp -implicitDefEqProofs -dsimp[w0,tl,w1x,hit,hrw',aN,LV,hva,am,hx,hsx,hpl,cap40 a (by omega),aM a (by omega)];refine hN2 (a+1,c2+1) _ _ ⟨by simp only;omega,by simp only;omega⟩ (by simp only;omega) (by simp[k2]) ⟨[],by simp[hps,dT]⟩ (by simp[tl,LC];omega) (hrb2 _)
  ·obtain rfl:a=n:=by omega
   have hnx:=hr_next tb (e0 t l) a i;refine wx ?_;simp -implicitDefEqProofs -dsimp[w0,tl,hne',hab];refine hQ2 _ _ _ ?_;simp -implicitDefEqProofs -dsimp[w1,t1',tl,t1l,qA i (by omega),hnx,aM i (by omega)];refine hN (i+1,c2) _ _ ⟨by simp only;omega,by simp only;rw[hc2,Nat.add_mul];omega⟩ (by simp only;omega) (by simp) ⟨[],by simp⟩ (by simp[tl,LC];omega) (hr_rb hbt _ _ _)
 ·have him:i=m:=by omega
  subst him;have gH:=hr_ok hbt (e0 t l) n i;have hFq:bo q.fds:=hqf▸hF;refine wx ?_;simp -implicitDefEqProofs -dsimp[t0,hme',hib];refine hQ _ _ _ ?_;simp -implicitDefEqProofs -dsimp[];refine aK (W_loopM 69 [6,7,61,62,63,64,65,66,67,68] (by simp[mB]<;>rfl) (σ:=Nat→En) (fun e=>Ent q (fun x=>toD (e x))∧EnOk e (q.m*q.n) (q.m*q.n)) (fun e=>cntS (q.m*q.n) (q.m*q.n+1) (fun x=>toD (e x))) (fun _=>[]) (fun e=>He (HR tb (e0 t l) n i) 2 i n e) (e0 t l) ⟨hE0,hO⟩ (by simp) (by rw[hr_he]) (by simp[eX]) ?_);rintro e ⟨hE,hOe⟩ N2 Q2 hN2 hQ2;have cs:=step_r hqm hqn gH e hE hOe hn hm df hFq;rw[hqf]at cs;simp only[LF]at cs;refine wx ?_;simp -implicitDefEqProofs -dsimp[];refine aV.mono (K:=StepR q (HR tb (e0 t l) n i) 2 (q.m*q.n) e) cs ?_;rintro r' H' (⟨rfl,hcl,G,rfl⟩ | ⟨rfl,hno⟩ | ⟨rfl,e',G,rfl,h1,h2,h3⟩)
  ·simp -implicitDefEqProofs -dsimp[];refine hQ2 _ _ _ ?_;simp -implicitDefEqProofs -dsimp[];refine .inr ⟨by rw[hqm],e,G,by rw[hqm,hqn],hE,hOe,hcl⟩
  ·simp -implicitDefEqProofs -dsimp[];refine hQ2 _ _ _ ?_;simp -implicitDefEqProofs -dsimp[];exact .inl ⟨rfl,hno⟩
  ·simp -implicitDefEqProofs -dsimp[];refine hN2 e' _ _ ⟨h1,h2⟩ h3 (by simp) ⟨G,by rw[hqm,hqn]⟩ (by simp[eX,tl,LC];omega) (he_rb gH e')
theorem filled_p(t:Tb)(ff gg df cf:Bool)(fds:List Fd)(l:List Cr)(hv:TbV t)(hF:bo fds)(hl:l.length≤1000000):
  aS Tryz.prog 45 [aF ff gg t,LF df fds,LC cf l] fun r=>∃v,r = .tup [v,.bool (okB (aW t fds l))]:=by
 refine cU ((filled_r t ff gg df cf fds l hv hF hl).mono fun r H' h=>?_);obtain⟨q,hq⟩:∃q,q=aW t fds l:=⟨_,rfl⟩;rw[←hq]at h ⊢;obtain⟨tb,htb⟩:∃tb,tb=B.cells [.str t.name,.lst 1 ff (t.attrs.map V.str),.lst 2 gg (t.rows.map aN)]:=⟨_,rfl⟩;rw[←htb]at h
 have hbt:∀k,rbB k tb:=fun k=>by rw[htb];simp
 rcases h with⟨rfl,hno⟩ | ⟨rfl,e,G,rfl,h1,h2,h3⟩
 ·rw[okB_false hno];exact⟨.tup [.nilS,.bool false],.pure _ (by simp),by simp,.nilS,rfl⟩
 ·rw[okB_true ⟨_,h1.sol h3⟩];have gH:=hr_ok hbt (e0 t l) q.n q.m;have hlen:=eX (HR tb (e0 t l) q.n q.m) 2 q.m q.n e;refine⟨.tup [.lst 1 false ((List.range q.m).map fun j=>.lst 4 false (et e q.n j)),.bool true],?_,?_,_,rfl⟩
  ·refine .tup _ _ rfl (fun i c d hc hd=>?_)
   match i with
   | 0 =>
    simp at hc hd;subst hc;subst hd
    have hk:(He (HR tb (e0 t l) q.n q.m) 2 q.m q.n e++G)[1]?=some (.buf 115 1 (ig 2 q.m q.n) false):=by
     rw[List.getElem?_append_left (by rw[hlen,eu];omega)];exact he_out gH e
    have hx:=ExpX.bufx (H:=He (HR tb (e0 t l) q.n q.m) 2 q.m q.n e++G) 1 _ _ (ig 2 q.m q.n) ((List.range q.m).map fun j=>V.lst 4 false (et e q.n j)) false hk (by simp[iB]) (fun j c d hc hd=>by
     by_cases hj:j<q.m
     ·simp[ig,hj]at hc hd;subst hc;subst hd
      have hr:(He (HR tb (e0 t l) q.n q.m) 2 q.m q.n e++G)[2+j]?=some (.buf 117 4 (et e q.n j) false):=by
       rw[List.getElem?_append_left (by rw[hlen,eu];omega)];exact ke gH e hj
      have:=ExpX.buf (2+j) _ _ (et e q.n j) false hr (fun x hx=>(jt e q.n j x hx).1);rw[eC]at this;exact this
     ·rw[List.getElem?_eq_none (by rw[iB];omega)]at hc;cases hc)
    rw[iB]at hx;exact hx
   | 1 =>
    simp at hc hd;subst hc;subst hd;exact .pure _ (by simp)
   | k+2=>simp at hc
  ·simp;intro j hj x hx;exact(jt e q.n j x hx).1
theorem enough_r(t:Tb)(ff gg df cf:Bool)(fds:List Fd)(l:List Cr)(hv:TbV t)(hF:bo fds)(hl:l.length≤1000000):
  aS Tryz.prog 17 [aF ff gg t,LF df fds,LC cf l] fun r=>r = .bool (okB (aW t fds l)):=by
 have c1:=filled_p t ff gg df cf fds l hv hF hl;simp only[aF,LS,LR,LC,LF]at c1;refine aC (aD tok Tryz.func17 rfl rfl ?_);refine wx ?_;simp -implicitDefEqProofs -dsimp[Tryz.f17,List.replicate,aF,LS,LR,LC,LF];refine(callK c1 (by simp)).mono ?_;rintro r H' ⟨rfl,_,v,rfl⟩;simp -implicitDefEqProofs -dsimp[]
end
def hasJ(b:Int)(i:Nat):Bool:=IntKind.i64.wrap ↑((b.fdiv (2^min i IntKind.i64.bits) % 2^IntKind.i64.bits).toNat &&& 1 % 2^IntKind.i64.bits)== 1
theorem hasJ_def(s:Int)(a:Nat):(IntKind.i64.wrap ↑((s.fdiv (2^min a IntKind.i64.bits) % 2^IntKind.i64.bits).toNat &&& 1 % 2^IntKind.i64.bits)== 1)=hasJ s a:=rfl
def bM(t:Tb)(b:Int)(i:Nat):List Cr:=((List.range i).filter (hasJ b)).map (bN t)
theorem selTo_yes{t:Tb}{b:Int}{i:Nat}(h:hasJ b i=true):bM t b (i+1)=bM t b i++[bN t i]:=by
 unfold bM;rw[List.range_succ,List.filter_append];simp[h]
theorem selTo_no{t:Tb}{b:Int}{i:Nat}(h:hasJ b i=false):bM t b (i+1)=bM t b i:=by
 unfold bM;rw[List.range_succ,List.filter_append];simp[h]
theorem mU(t:Tb)(b:Int)(i:Nat):(bM t b i).length≤i:=by
 unfold bM;rw[List.length_map];exact Nat.le_trans (List.length_filter_le _ _) (by simp)
noncomputable def lsF(t:Tb)(fds:List Fd)(N:Nat):Nat→Nat
 | 0=>N
 | b+1=>if(bM t b N).length<lsF t fds N b∧okB (aW t fds (bM t b N))=true then(bM t b N).length else lsF t fds N b
theorem least_r(t:Tb)(ff gg df:Bool)(fds:List Fd)(hv:TbV t)(hF:bo fds)(hN:t.rows.length*t.attrs.length≤9):aS Tryz.prog 31 [aF ff gg t,LF df fds] fun r=>r = .int .i64 (lsF t fds (t.rows.length*t.attrs.length) (2^(t.rows.length*t.attrs.length)):Nat):=by
 have c1:=dR t ff gg (by have:=hv.rows;omega) (by have:=hv.attrs;omega);obtain⟨all,hall⟩:∃all,all=aa t:=⟨_,rfl⟩
 have hlen:all.length=t.rows.length*t.attrs.length:=by rw[hall,dM]
 have hat:∀i (h:i<all.length),all[i]=bN t i:=fun i h=>by subst hall;exact cellsT_at h
 rw[←hall]at c1;rw[←hlen]at hN ⊢;obtain⟨n,hnn⟩:∃n,n=all.length:=⟨_,rfl⟩;rw[←hnn]at hN ⊢;have hnn':=hnn.symm
 have hp9:2^n≤512:=by have:=Nat.pow_le_pow_right (n:=2) (by omega) hN;simpa using this
 have hcast:(2:Int)^n=((2^n:Nat):Int):=by push_cast;rfl
 have hsh:IntKind.i64.wrap (2^min n IntKind.i64.bits)=((2^n:Nat):Int):=by
  rw[show min n IntKind.i64.bits=n by simp[IntKind.bits];omega,hcast];exact dS _ (by omega)
 obtain⟨M,hM⟩:∃M,M=2^n:=⟨_,rfl⟩;rw[←hM]at hsh hp9 ⊢
 have hls:∀b,lsF t fds n b≤n:=fun b=>by
  induction b with
  | zero=>exact Nat.le_refl _
  | succ b ih=>rw[lsF];split;exact mU t b n;exact ih
 simp only[aF,LS,LR,LC,LF]at c1;refine aC (aD tok Tryz.func31 rfl rfl ?_);refine wx ?_;simp -implicitDefEqProofs -dsimp[Tryz.f31,List.replicate,aF,LS,LR,LC,LF];refine(aG (c1) (by simp)).mono ?_;rintro r H' ⟨rfl,rfl⟩;simp -implicitDefEqProofs -dsimp[];refine aK (W_loopM 51 [6,7,8,9,14,15,16,17,18,19,20,21,22,23,24,25,26,27,28,29,30,31,32,33,34,35,36,37,38,39,40,41,42,43,44,45,46,47,48,49,50] (by simp[mB]<;>rfl) (σ:=Nat) (fun b=>b≤M) (fun b=>M-b) (fun b=>[(7,.int .i64 b),(6,.int .i64 (lsF t fds n b:Nat))]) (fun _=>[B.cells [.str t.name,.lst 1 ff (t.attrs.map V.str),.lst 2 gg (t.rows.map aN)]]) 0 (by omega) (by simp[lsF,hnn']) (by simp) (by simp) ?_);intro b hb N Q hN1 hQ;by_cases hbM:b<M
 ·refine wx ?_;simp -implicitDefEqProofs -dsimp[hnn',hsh,show(b:Int)<M by omega,hbM];refine aK (gG 49 2 [8] (by simp) (W_loopM 39 [8,9,21,22,23,24,25,26,27,28,29,30,31,32,33,34,35,36,37,38] (by simp[mB]<;>rfl) (σ:=Nat) (fun i=>i≤n) (fun i=>n-i) (fun i=>[(9,.int .i64 i),(8,.buf 1 0 (bM t b i).length (bM t b i).length)]) (fun i=>[B.cells [.str t.name,.lst 1 ff (t.attrs.map V.str),.lst 2 gg (t.rows.map aN)],B.buf 49 2 ((bM t b i).map aO) false]) 0 (by omega) (by simp[bM]) (by simp[bM]) (by simp) ?_));intro i hi N2 Q2 hN2 hQ2;by_cases hbi:i<n
  ·have hb1:i<all.length:=by omega
   have h1:=hat i hb1;obtain⟨x,hx⟩:∃x,x=all[i]:=⟨_,rfl⟩;rw[←hx]at h1;have hx':=hx.symm;have hol:=mU t b i
   cases hq:hasJ b i with
   | true =>
    have hst:=selTo_yes (t:=t) hq;rw[←h1]at hst;refine wx ?_;simp -implicitDefEqProofs -dsimp[hb1,hnn',hbi,hx',aO,hasJ_def,hq,je (bM t b i).length (by omega),aM i (by omega)];refine hN2 (i+1) _ _ (by omega) (by omega) (by simp[hst]) ⟨[],by simp[hst,aO]⟩ (by simp) (by simp)
   | false =>
    have hst:=selTo_no (t:=t) hq;refine wx ?_;simp -implicitDefEqProofs -dsimp[hb1,hnn',hbi,hx',aO,hasJ_def,hq,aM i (by omega)];refine hN2 (i+1) _ _ (by omega) (by omega) (by simp[hst]) ⟨[],by simp[hst]⟩ (by simp) (by simp)
  ·obtain rfl:n=i:=by omega
   have hsl:=mU t b n;have ce:=enough_r t ff gg df false fds (bM t b n) hv hF (by omega);simp only[aF,LS,LR,LF,LC]at ce;have hlsb:=hls b
   have hnx:lsF t fds n (b+1)=if(bM t b n).length<lsF t fds n b∧okB (aW t fds (bM t b n))=true then(bM t b n).length else lsF t fds n b:=rfl
   obtain⟨sl,hse⟩:∃sl,sl=bM t b n:=⟨_,rfl⟩;obtain⟨q,hqe⟩:∃q,q=okB (aW t fds (bM t b n)):=⟨_,rfl⟩;obtain⟨z,hze⟩:∃z,z=lsF t fds n b:=⟨_,rfl⟩;rw[←hqe]at ce hnx;rw[←hse]at ce hnx hsl ⊢;rw[←hze]at hnx hlsb ⊢;refine W_frz 1 [8] rfl (by simp) ?_;by_cases hlt:sl.length<z
   ·have hlt2:(sl.length:Int)<(z:Int):=by omega
    cases q with
    | true =>
     rw[if_pos ⟨hlt,rfl⟩]at hnx;refine wx ?_;simp -implicitDefEqProofs -dsimp[hnn',Nat.lt_irrefl];refine hQ2 _ _ _ ?_;simp -implicitDefEqProofs -dsimp[hlt,hlt2];refine(aG (ce) (by simp)).mono ?_;rintro r H' ⟨rfl,rfl⟩;simp -implicitDefEqProofs -dsimp[aM b (by omega)];refine hN1 (b+1) _ _ (by omega) (by omega) (by simp[hnx,hnn']) ⟨_,rfl⟩ (by simp) (by simp)
    | false =>
     rw[if_neg (by simp)]at hnx;refine wx ?_;simp -implicitDefEqProofs -dsimp[hnn',Nat.lt_irrefl];refine hQ2 _ _ _ ?_;simp -implicitDefEqProofs -dsimp[hlt,hlt2];refine(aG (ce) (by simp)).mono ?_;rintro r H' ⟨rfl,rfl⟩;simp -implicitDefEqProofs -dsimp[aM b (by omega)];refine hN1 (b+1) _ _ (by omega) (by omega) (by simp[hnx,hnn']) ⟨_,rfl⟩ (by simp) (by simp)
   ·rw[if_neg (fun h=>hlt h.1)]at hnx;refine wx ?_;simp -implicitDefEqProofs -dsimp[hnn',Nat.lt_irrefl];refine hQ2 _ _ _ ?_;simp -implicitDefEqProofs -dsimp[hlt,show ¬(sl.length:Int)<(z:Int) by omega,aM b (by omega)];refine hN1 (b+1) _ _ (by omega) (by omega) (by simp[hnx,hnn']) ⟨_,rfl⟩ (by simp) (by simp)
 ·obtain rfl:M=b:=by omega
  refine wx ?_;simp -implicitDefEqProofs -dsimp[hnn',hsh,show ¬(M:Int)<M by omega];refine hQ _ _ _ ?_;simp -implicitDefEqProofs -dsimp[]
theorem lsF_le{t:Tb}{fds:List Fd}{N:Nat} : ∀(B b:Nat),b<B→okB (aW t fds (bM t b N))=true→lsF t fds N B≤(bM t b N).length
 | 0,b,h,_=>by omega
 | B+1,b,h,hok=>by
  have hd:lsF t fds N (B+1)=if(bM t B N).length<lsF t fds N B∧okB (aW t fds (bM t B N))=true then(bM t B N).length else lsF t fds N B:=rfl
  rw[hd];by_cases e:b=B
  ·subst e;split
   ·exact Nat.le_refl _
   ·rename_i h2;by_cases h3:(bM t b N).length<lsF t fds N b
    ·exact absurd ⟨h3,hok⟩ h2
    ·omega
  ·have ih:=lsF_le B b (by omega) hok;split
   ·rename_i h2;omega
   ·exact ih
theorem lsF_at{t:Tb}{fds:List Fd}{N:Nat} : ∀B:Nat,lsF t fds N B=N∨∃b,b<B∧okB (aW t fds (bM t b N))=true∧lsF t fds N B=(bM t b N).length
 | 0=>.inl rfl
 | B+1=>by
  have hd:lsF t fds N (B+1)=if(bM t B N).length<lsF t fds N B∧okB (aW t fds (bM t B N))=true then(bM t B N).length else lsF t fds N B:=rfl
  by_cases h:(bM t B N).length<lsF t fds N B∧okB (aW t fds (bM t B N))=true
  ·rw[hd,if_pos h];exact .inr ⟨B,by omega,h.2,rfl⟩
  ·rw[hd,if_neg h]
   rcases lsF_at (t:=t) (fds:=fds) (N:=N) B with h2 | ⟨b,h1,h2,h3⟩
   ·exact .inl h2
   ·exact .inr ⟨b,by omega,h2,h3⟩
theorem hasJ_all:∀b:Fin 512,∀i:Fin 9,hasJ (b.val:Int) i.val=b.val.testBit i.val:=of_decide_eq_true (by kernel_rfl)
theorem hasJ_bit{b i:Nat}(hb:b<512)(hi:i<9):hasJ (b:Int) i=b.testBit i:=hasJ_all ⟨b,hb⟩ ⟨i,hi⟩
def bnF(P:Nat→Bool):Nat→Nat
 | 0=>0
 | n+1=>bnF P n+if P n=true then 2^n else 0
theorem bnF_lt(P:Nat→Bool):∀n,bnF P n<2^n
 | 0=>by simp[bnF]
 | n+1=>by
  have:=bnF_lt P n;rw[bnF,Nat.pow_succ];split<;>omega
theorem mO(P:Nat→Bool):∀n i,i<n→(bnF P n).testBit i=P i
 | 0,i,h=>by omega
 | n+1,i,h=>by
  have hl:=bnF_lt P n;rw[bnF];by_cases hp:P n=true
  ·rw[if_pos hp,Nat.add_comm];by_cases e:i=n
   ·subst e;rw[Nat.testBit_two_pow_add_eq,Nat.testBit_lt_two_pow hl,hp];rfl
   ·rw[Nat.testBit_two_pow_add_gt (by omega),mO P n i (by omega)]
  ·rw[if_neg hp,Nat.add_zero];by_cases e:i=n
   ·subst e;rw[Nat.testBit_lt_two_pow hl];cases h2:P i
    ·rfl
    ·exact absurd h2 hp
   ·exact mO P n i (by omega)
theorem sel_all{t:Tb}{N:Nat}(hN:N≤9)(P:Nat→Bool):∃b:Nat,b<2^N∧bM t (b:Int) N=((List.range N).filter P).map (bN t):=by
 have hp:2^N≤512:=by have:=Nat.pow_le_pow_right (n:=2) (by omega) hN;simpa using this
 have hl:=bnF_lt P N;refine⟨bnF P N,hl,?_⟩;unfold bM;congr 1;refine List.filter_congr (fun i hi=>?_);rw[List.mem_range]at hi;rw[hasJ_bit (by omega) (by omega),mO P N i hi]
def fP(m:List Nat)(room:List Int):List Nat→Int→Int
 | [],a=>a
 | v::e,a=>fP m room e (if m.getD v 0=0 then min a (room.getD v 0) else a)
def lB(a:Int):List Nat→List Int→List Int
 | [],rm=>rm
 | v::e,rm=>lB a e (rm.set v (rm.getD v 0-a))
def cO(m:List Nat):List (List Nat)→Nat→List Int→List Shr×Int
 | [],_,_=>([],0)
 | e::es,i,room =>
  if fJ m 1 e=true then cO m es (i+1) room
  else if fP m room e 1000000=0 then cO m es (i+1) room
  else(⟨i,fP m room e 1000000⟩::(cO m es (i+1) (lB (fP m room e 1000000) e room)).1,fP m room e 1000000+(cO m es (i+1) (lB (fP m room e 1000000) e room)).2)
def brE(m:List Nat):List Nat→List Int→Int→List Int×Int
 | [],c,b=>(c,b)
 | v::e,c,b =>
  if m.getD v 0=0 then brE m e (c.set v (c.getD v 0+1)) (if b<0∨(c.set v (c.getD v 0+1)).getD b.toNat 0<c.getD v 0+1 then(v:Int) else b)
  else brE m e c b
def brF(m:List Nat):List (List Nat)→List Int→Int→Int
 | [],_,b=>b
 | e::es,c,b=>if fJ m 1 e=true then brF m es c b else brF m es (brE m e c b).1 (brE m e c b).2
def eQ(ws:List Int)(es:List (List Nat))(m:List Nat):List Shr×Int:=cO m es 0 ws
def brS(es:List (List Nat))(m:List Nat):Int:=brF m es (List.replicate m.length 0) (-1)
def fG(ws:List Int)(es:List (List Nat)):Nat→List Nat→Int→Int→Option (List Nde×Int)
 | 0,_,_,_=>none
 | k+1,m,lf,b =>
  if lf-1<0 then none
  else if b≤0∨fA m es=true then some ([⟨-1,[]⟩],lf-1)
  else if b≤(eQ ws es m).2 then some ([⟨-1,(eQ ws es m).1⟩],lf-1)
  else if brS es m<0 then none
  else match fG ws es k (m.set (brS es m).toNat 1) (lf-1) (b-ws.getD (brS es m).toNat 0) with
   | none=>none
   | some p=>match fG ws es k (m.set (brS es m).toNat 2) p.2 b with
    | none=>none
    | some q=>some (⟨brS es m,[]⟩::(p.1++q.1),q.2)
def chosenL(m:List Nat):List Nat:=(List.range m.length).filter fun v=>decide (m.getD v 0=1)
structure Bst where
 l:List Nat
 w:Int
def mb(ws:List Int)(es:List (List Nat)):Nat→List Nat→Int→Bst→Int→Option (Int×Bst)
 | 0,_,_,_,_=>none
 | k+1,m,lf,b,w =>
  if lf-1<0 then none
  else if fA m es=true then some (lf-1,b)
  else if b.w≤w+(eQ ws es m).2 then some (lf-1,b)
  else if brS es m<0 then some (lf-1,⟨chosenL m,w⟩)
  else match mb ws es k (m.set (brS es m).toNat 1) (lf-1) b (w+ws.getD (brS es m).toNat 0) with
   | none=>none
   | some p=>mb ws es k (m.set (brS es m).toNat 2) p.1 p.2 w
def db(m:List Nat):Nat:=m.countP fun x=>decide (x=0)
def phi(m:List Nat)(T:Nat→Bool)(room:List Int):Nat→Int
 | 0=>0
 | n+1=>phi m T room n+if T n=true∧m.getD n 0=0 then room.getD n 0 else 0
def dX(ws:List Int)(T:Nat→Bool):Nat→Int
 | 0=>0
 | n+1=>dX ws T n+if T n=true then ws.getD n 0 else 0
structure Ext (n:Nat) (es:List (List Nat)) (m:List Nat) (T:Nat→Bool):Prop where
 c:∀v<n,m.getD v 0=1→T v=true
 x:∀v<n,m.getD v 0=2→T v=false
 h:∀e∈es,∃v∈e,T v=true
theorem lL{m:List Nat}{v c:Nat}(hv:v<m.length)(h0:m.getD v 0=0)(hc:c≠0):db (m.set v c)+1=db m:=by
 unfold db;rw[List.countP_set hv]
 have e:m[v]=0:=by rwa [ak _ _ hv]at h0
 have hp:0<m.countP fun x=>decide (x=0):=List.countP_pos_iff.2 ⟨m[v],List.getElem_mem hv,by simp[e]⟩
 simp[e,hc];omega
theorem ic{m:List Nat}{v c:Nat}(T:Nat→Bool)(room:List Int)(hv:v<m.length)(h0:m.getD v 0=0)(hc:c≠0):∀n,phi (m.set v c) T room n=phi m T room n-if v<n∧T v=true then room.getD v 0 else 0
 | 0=>by simp[phi]
 | n+1=>by
  rw[phi,phi,ic T room hv h0 hc n];by_cases e:v=n
  ·subst e;rw[aX _ hv,h0];by_cases ht:T v=true<;>simp[hc,ht]
  ·rw[af _ e]
   have:(v<n+1∧T v=true)↔(v<n∧T v=true):=by constructor<;>rintro⟨a,b⟩<;>exact⟨by omega,b⟩
   simp only[this];omega
theorem fj{m:List Nat}{T:Nat→Bool}{room:List Int} : ∀n,(∀v<n,m.getD v 0=0→0≤room.getD v 0)→0≤phi m T room n
 | 0,_=>by simp[phi]
 | n+1,h=>by
  rw[phi]
  have:=fj (T:=T) n fun v hv h0=>h v (by omega) h0
  split
  ·have:=h n (by omega) (by rename_i hq;exact hq.2);omega
  ·omega
theorem phi_le{m:List Nat}{T:Nat→Bool}{room room':List Int}{a:Int}(ha:0≤a):∀n,(∀v<n,room'.getD v 0≤room.getD v 0)→phi m T room' n≤phi m T room n∧((∃u<n,T u=true∧m.getD u 0=0∧room'.getD u 0=room.getD u 0-a)→phi m T room' n≤phi m T room n-a)
 | 0,_=>⟨by simp[phi],by rintro⟨u,h,_⟩;omega⟩
 | n+1,h=>by
  obtain⟨i1,i2⟩:=phi_le (m:=m) (T:=T) ha n fun v hv=>h v (by omega)
  have hn:=h n (by omega);rw[phi,phi];refine⟨by split<;>omega,?_⟩;rintro⟨u,hu,h1,h2,h3⟩;by_cases e:u=n
  ·subst e;rw[if_pos ⟨h1,h2⟩,if_pos ⟨h1,h2⟩];omega
  ·have:=i2 ⟨u,by omega,h1,h2,h3⟩;split<;>omega
theorem lA(a:Int)(n:Nat):∀(e:List Nat) (rm:List Int),e.Pairwise (· < ·)→(∀v∈e,v<n)→rm.length=n →
  (lB a e rm).length=n∧∀v,(lB a e rm).getD v 0=rm.getD v 0-if v∈e then a else 0
 | [],rm,_,_,hl=>⟨hl,by simp[lB]⟩
 | v::e,rm,hp,hn,hl=>by
  obtain⟨hp1,hp2⟩:=List.pairwise_cons.1 hp
  have hv:v<rm.length:=by rw[hl];exact hn v (by simp)
  rw[lB];obtain⟨h1,h2⟩:=lA a n e (rm.set v (rm.getD v 0-a)) hp2 (fun u hu=>hn u (by simp[hu])) (by simp[hl]);refine⟨h1,fun u=>?_⟩;rw[h2 u];by_cases e1:v=u
  ·subst e1;rw[aX _ hv,if_neg (fun hu=>by have:=hp1 v hu;omega)];simp
  ·rw[af _ e1]
   have:(u∈v::e)↔u∈e:=by simp;omega
   simp only[this]
theorem amt_spec(m:List Nat)(room:List Int):∀(e:List Nat) (a:Int),fP m room e a≤a∧(∀v∈e,m.getD v 0=0→fP m room e a≤room.getD v 0)∧(0≤a→(∀v∈e,m.getD v 0=0→0≤room.getD v 0)→0≤fP m room e a)
 | [],a=>⟨by simp[fP],by simp,by simp[fP]⟩
 | v::e,a=>by
  rw[fP];obtain⟨h1,h2,h3⟩:=amt_spec m room e (if m.getD v 0=0 then min a (room.getD v 0) else a);refine⟨?_,fun u hu h0=>?_,fun ha hr=>h3 ?_ fun u hu=>hr u (by simp[hu])⟩
  ·have h4:(if m.getD v 0=0 then min a (room.getD v 0) else a)≤a:=by split<;>omega
   omega
  ·rcases List.mem_cons.1 hu with rfl | hu
   ·rw[if_pos h0]at h1 ⊢;omega
   ·exact h2 u hu h0
  ·split
   ·have:=hr v (by simp) (by assumption);omega
   ·exact ha
theorem oc{m:List Nat}{room:List Int}{n:Nat}{e:List Nat}(he:e.Pairwise (· < ·))(hn:∀v∈e,v<n)(hl:room.length=n)(hr:∀v<n,m.getD v 0=0→0≤room.getD v 0):
  (lB (fP m room e 1000000) e room).length=n∧(∀v<n,m.getD v 0=0→0≤(lB (fP m room e 1000000) e room).getD v 0)∧0≤fP m room e 1000000∧fP m room e 1000000≤1000000:=by
 obtain⟨a1,a2,a3⟩:=amt_spec m room e 1000000;obtain⟨s1,s2⟩:=lA (fP m room e 1000000) n e room he hn hl;refine⟨s1,fun v hv h0=>?_,a3 (by omega) fun v hv=>hr v (hn v hv),a1⟩;rw[s2 v];have:=hr v hv h0;split
 ·have:=a2 v (by assumption) h0;omega
 ·omega
theorem ny{m:List Nat}{n:Nat}{T:Nat→Bool} : ∀(es:List (List Nat)) (i:Nat) (room:List Int),gq n es→Ext n es m T→(∀v<n,m.getD v 0≤2)→room.length=n→(∀v<n,m.getD v 0=0→0≤room.getD v 0)→(cO m es i room).2≤phi m T room n
 | [],i,room,_,_,_,_,hr=>by rw[cO];exact fj n hr
 | e::es,i,room,he,hx,h2,hl,hr=>by
  obtain⟨e1,e2,e3⟩:=he e (by simp)
  have he':gq n es:=fun x hx=>he x (by simp[hx])
  have hx':Ext n es m T:=⟨hx.c,hx.x,fun x hx2=>hx.h x (by simp[hx2])⟩;rw[cO];split
  ·exact ny es _ room he' hx' h2 hl hr
  ·rename_i hh;split
   ·exact ny es _ room he' hx' h2 hl hr
   ·obtain⟨r1,r2,r3,r4⟩:=oc (m:=m) e2 e3 hl hr;have ih:=ny es (i+1) _ he' hx' h2 r1 r2;obtain⟨u,hu,hT⟩:=hx.h e (by simp);obtain⟨s1,s2⟩:=lA (fP m room e 1000000) n e room e2 e3 hl
    have hu0:m.getD u 0=0:=by
     have a2:=h2 u (e3 u hu);by_cases b1:m.getD u 0=1
     ·exact absurd (List.any_eq_true.2 ⟨u,hu,by simpa using b1⟩) hh
     ·by_cases b2:m.getD u 0=2
      ·rw[hx.x u (e3 u hu) b2]at hT;cases hT
      ·omega
    have:=(phi_le (m:=m) (T:=T) (room:=room) r3 n fun v hv=>by rw[s2 v];split<;>omega).2 ⟨u,e3 u hu,hT,hu0,by rw[s2 u,if_pos hu]⟩;simp only;omega
theorem ie{m:List Nat}{n:Nat}{ES:List (List Nat)}(hE:gq n ES):∀(es:List (List Nat)) (i:Nat) (room:List Int),es=ES.drop i→room.length=n→(∀v<n,m.getD v 0=0→0≤room.getD v 0)→
  (∀x∈(cO m es i room).1,okS ES m x=true)∧gX (cO m es i room).1=(cO m es i room).2∧(cO m es i room).1.length≤es.length∧(∀v<n,m.getD v 0=0→ldR ES v (cO m es i room).1≤room.getD v 0)∧(cO m es i room).2≤1000000*es.length∧0≤(cO m es i room).2
 | [],i,room,_,_,hr=>by simp[cO,gX,ldR];exact hr
 | e::es,i,room,hd,hl,hr=>by
  have hi:i<ES.length:=by
   by_cases h:i<ES.length
   ·exact h
   ·rw[List.drop_of_length_le (by omega)]at hd;cases hd
  rw[List.drop_eq_getElem_cons hi]at hd;obtain⟨hd1,hd2⟩:=List.cons.inj hd
  have hg:ES.getD i []=e:=by rw[ak _ _ hi,hd1]
  obtain⟨e1,e2,e3⟩:=hE e (by rw[hd1];exact List.getElem_mem hi);rw[cO];split
  ·obtain⟨a,b,c,d,f,g⟩:=ie hE es (i+1) room hd2 hl hr;exact⟨a,b,by simp;omega,d,by simp;omega,g⟩
  ·rename_i hh;split
   ·obtain⟨a,b,c,d,f,g⟩:=ie hE es (i+1) room hd2 hl hr;exact⟨a,b,by simp;omega,d,by simp;omega,g⟩
   ·rename_i h0;obtain⟨r1,r2,r3,r4⟩:=oc (m:=m) e2 e3 hl hr;obtain⟨a,b,c,d,f,g⟩:=ie hE es (i+1) _ hd2 r1 r2;obtain⟨s1,s2⟩:=lA (fP m room e 1000000) n e room e2 e3 hl;refine⟨fun x hx=>?_,by simp only[gX];omega,by simp;omega,fun v hv hv0=>?_,by simp;omega,by simp;omega⟩
    ·rcases List.mem_cons.1 hx with rfl | hx
     ·simp only[okS,Int.toNat_natCast,hg,Bool.and_eq_true,decide_eq_true_eq];refine⟨⟨⟨⟨by omega,by omega⟩,by omega⟩,by omega⟩,by simpa using hh⟩
     ·exact a x hx
    ·simp only[ldR,Int.toNat_natCast,hg];have:=d v hv hv0;rw[s2 v]at this;omega
theorem qC(m:List Nat):∀(e:List Nat) (c:List Int) (b:Int),((brE m e c b).2=b∧(b<0→∀v∈e,m.getD v 0≠0))∨∃v∈e,m.getD v 0=0∧(brE m e c b).2=v
 | [],c,b=>.inl ⟨rfl,by simp⟩
 | v::e,c,b=>by
  rw[brE];split
  ·rename_i h0
   rcases qC m e (c.set v (c.getD v 0+1)) (if b<0∨(c.set v (c.getD v 0+1)).getD b.toNat 0<c.getD v 0+1 then(v:Int) else b) with⟨h1,_⟩ | ⟨u,hu,h1,h2⟩
   ·by_cases hb:b<0∨(c.set v (c.getD v 0+1)).getD b.toNat 0<c.getD v 0+1
    ·rw[if_pos hb]at h1 ⊢;exact .inr ⟨v,by simp,h0,h1⟩
    ·rw[if_neg hb]at h1 ⊢;exact .inl ⟨h1,fun h=>absurd (.inl h) hb⟩
   ·exact .inr ⟨u,by simp[hu],h1,h2⟩
  ·rename_i h0
   rcases qC m e c b with⟨h1,h2⟩ | ⟨u,hu,h1,h2⟩
   ·refine .inl ⟨h1,fun h u hu=>?_⟩
    rcases List.mem_cons.1 hu with rfl | hu
    ·exact h0
    ·exact h2 h u hu
   ·exact .inr ⟨u,by simp[hu],h1,h2⟩
theorem qB(m:List Nat):∀(es:List (List Nat)) (c:List Int) (b:Int),(brF m es c b=b∧(b<0→∀e∈es,fJ m 1 e=true∨∀v∈e,m.getD v 0≠0))∨∃e∈es,∃v∈e,m.getD v 0=0∧brF m es c b=v
 | [],c,b=>.inl ⟨rfl,by simp⟩
 | e::es,c,b=>by
  rw[brF];split
  ·rename_i h0
   rcases qB m es c b with⟨h1,h2⟩ | ⟨x,hx,v,hv,h1,h2⟩
   ·refine .inl ⟨h1,fun h x hx=>?_⟩
    rcases List.mem_cons.1 hx with rfl | hx
    ·exact .inl h0
    ·exact h2 h x hx
   ·exact .inr ⟨x,by simp[hx],v,hv,h1,h2⟩
  ·rcases qB m es (brE m e c b).1 (brE m e c b).2 with⟨h1,h2⟩ | ⟨x,hx,v,hv,h1,h2⟩
   ·rcases qC m e c b with⟨g1,g2⟩ | ⟨v,hv,g1,g2⟩
    ·rw[g1]at h1 h2;rw[g1];refine .inl ⟨h1,fun h x hx=>?_⟩
     rcases List.mem_cons.1 hx with rfl | hx
     ·exact .inr (g2 h)
     ·exact h2 h x hx
    ·rw[g2]at h1;rw[g2];exact .inr ⟨e,by simp,v,hv,g1,h1⟩
   ·exact .inr ⟨x,by simp[hx],v,hv,h1,h2⟩
theorem mN{n:Nat}{es:List (List Nat)}(he:gq n es)(m:List Nat):(brS es m<0∧(fA m es=false→∀e∈es,∃v∈e,m.getD v 0=1))∨((brS es m).toNat<n∧0≤brS es m∧m.getD (brS es m).toNat 0=0):=by
 unfold brS
 rcases qB m es (List.replicate m.length 0) (-1) with⟨h1,h2⟩ | ⟨e,h,v,hv,h1,h2⟩
 ·refine .inl ⟨by omega,fun hd e h=>?_⟩
  have h3:fJ m 1 e=true:=by
   rcases h2 (by omega) e h with h3 | h3
   ·exact h3
   ·have:=List.any_eq_false.1 hd e h
    have h0:fJ m 0 e=false:=by
     unfold fJ;rw[List.any_eq_false];intro v hv;simpa using h3 v hv
    rw[h0]at this;simpa using this
  obtain⟨v,hv,h4⟩:=List.any_eq_true.1 h3;exact⟨v,hv,by simpa using h4⟩
 ·rw[h2];exact .inr ⟨by simpa using(he e h).2.2 v hv,by omega,by simpa using h1⟩
structure Wok (n:Nat) (ws:List Int) (m:List Nat):Prop where
 lw:ws.length=n
 lm:m.length=n
 p:∀v<n,1≤ws.getD v 0
 le:∀v<n,m.getD v 0≤2
theorem Wok.set{n:Nat}{ws:List Int}{m:List Nat}(g:Wok n ws m)(v:Nat){c:Nat}(hc:c≤2):Wok n ws (m.set v c):=by
 refine⟨g.lw,by simp[g.lm],g.p,fun u hu=>?_⟩;by_cases e:v=u
 ·subst e;by_cases hv:v<m.length
  ·rw[aX _ hv];exact hc
  ·rw[List.set_eq_of_length_le (by omega)];exact g.le v hu
 ·rw[af _ e];exact g.le u hu
theorem Ext.of_set{n:Nat}{es:List (List Nat)}{m:List Nat}{T:Nat→Bool}{v c:Nat}(hv:v<m.length)(hn:v<n)(h0:m.getD v 0=0)(h:Ext n es (m.set v c) T):Ext n es m T:=by
 refine⟨fun u hu h1=>?_,fun u hu h1=>?_,h.h⟩
 ·have:v≠u:=by rintro rfl;omega
  exact h.c u hu (by rwa [af _ this])
 ·have:v≠u:=by rintro rfl;omega
  exact h.x u hu (by rwa [af _ this])
theorem prv_ok{ws:List Int}{es:List (List Nat)}{n:Nat}(he:gq n es)(hes:es.length≤10000):∀(k:Nat) (m:List Nat) (lf b:Int),Wok n ws m→db m<k→2^(db m+1)-1≤lf→(∀T,Ext n es m T→b≤phi m T ws n)→
  ∃l lf',fG ws es k m lf b=some (l,lf')∧lf-(2^(db m+1)-1)≤lf'∧∀(r:List Nde) (K:Nat),l.length≤K→cN ws es K m (l++r) b=(some r,true)
 | 0,_,_,_,_,h,_,_=>by omega
 | k+1,m,lf,b,g,ho,hlf,hT=>by
  have hp1:(1:Int)≤2^db m:=by exact_mod_cast Nat.one_le_two_pow
  rw[Int.pow_succ]at hlf;rw[fG,if_neg (by omega)];by_cases h1:b≤0∨fA m es=true
  ·rw[if_pos h1];refine⟨_,_,rfl,by rw[Int.pow_succ];omega,fun r K hK=>?_⟩;obtain⟨K,rfl⟩:∃j,K=j+1:=⟨K-1,by simp at hK;omega⟩;simp only[List.cons_append,List.nil_append,cN,if_true];rw[Prod.mk.injEq];refine⟨rfl,?_⟩
   rcases h1 with h | h<;>simp[h]
  ·rw[if_neg h1]
   have hb:0<b:=by
    by_cases h:b≤0
    ·exact absurd (.inl h) h1
    ·omega
   have hd:fA m es=false:=by
    cases h:fA m es
    ·rfl
    ·exact absurd (.inr h) h1
   have hr:∀v<n,m.getD v 0=0→0≤ws.getD v 0:=fun v hv _=>by have:=g.p v hv;omega
   obtain⟨q1,q2,q3,q4,_,_⟩:=ie (m:=m) he es 0 ws (by simp) g.lw hr;by_cases h2:b≤(eQ ws es m).2
   ·rw[if_pos h2];refine⟨_,_,rfl,by rw[Int.pow_succ];omega,fun r K hK=>?_⟩;obtain⟨K,rfl⟩:∃j,K=j+1:=⟨K-1,by simp at hK;omega⟩;unfold eQ at h2 ⊢
    have hne:(cO m es 0 ws).1≠[]:=fun h=>by rw[h]at q2;simp only[gX]at q2;omega
    simp only[List.cons_append,List.nil_append,cN,if_true];rw[if_neg hne,Prod.mk.injEq];refine⟨rfl,?_⟩;unfold shE;rw[decide_eq_true (show(cO m es 0 ws).1.length≤10000 by omega),Bool.true_and,gP ws es m b he _ _ 0 (by simp[g.lm]) (fun v hv _=>by rw[dy];have:=g.p v hv;omega)];exact⟨q1,fun v hv h0=>by rw[dy,Int.zero_add];exact q4 v hv h0,by omega⟩
   ·rw[if_neg h2]
    rcases mN he m with⟨h3,h4⟩ | ⟨v1,v2,v3⟩
    ·exfalso;have hx:=hT (fun v=>decide (m.getD v 0=1)) ⟨fun v _ h=>by simpa using h,fun v _ h=>by simp only[decide_eq_false_iff_not];omega,fun e h=>by obtain⟨v,hv,h5⟩:=h4 hd e h;exact⟨v,hv,by simpa using h5⟩⟩
     have h0:∀j,phi m (fun v=>decide (m.getD v 0=1)) ws j=0:=by
      intro j
      induction j with
      | zero=>rfl
      | succ j ih=>rw[phi,ih,if_neg (by rintro⟨a,c⟩;simp only[decide_eq_true_eq]at a;omega)];rfl
     rw[h0]at hx;omega
    ·rw[if_neg (by omega)];obtain⟨v,hv⟩:∃v,v=(brS es m).toNat:=⟨_,rfl⟩
     have hvi:brS es m=(v:Int):=by omega
     rw[←hv]at v1 v3 ⊢
     have hvm:v<m.length:=by rw[g.lm];exact v1
     have o1:=lL hvm v3 (c:=1) (by omega);have o2:=lL hvm v3 (c:=2) (by omega)
     have hpo:(2:Int)^db m=2^(db (m.set v 1)+1):=by rw[o1]
     have hpo2:(2:Int)^db m=2^(db (m.set v 2)+1):=by rw[o2]
     obtain⟨l1,f1,a1,a2,a3⟩:=prv_ok he hes k (m.set v 1) (lf-1) (b-ws.getD v 0) (g.set v (by omega)) (by omega) (by rw[←hpo];omega) (fun T hX=>by
      have:=hT T (hX.of_set hvm v1 v3);rw[ic T ws hvm v3 (by omega) n,if_pos ⟨v1,hX.c v v1 (aX _ hvm _ _)⟩]
      omega)
     rw[←hpo]at a2;rw[a1]
     obtain⟨l2,f2,b1,b2,b3⟩:=prv_ok he hes k (m.set v 2) f1 b (g.set v (by omega)) (by omega) (by rw[←hpo2];omega) (fun T hX=>by
      have:=hT T (hX.of_set hvm v1 v3);rw[ic T ws hvm v3 (by omega) n,if_neg (by rintro⟨_,h⟩;rw[hX.x v v1 (aX _ hvm _ _)]at h;cases h)]
      omega)
     rw[←hpo2]at b2;simp only[b1];refine⟨_,_,rfl,by rw[Int.pow_succ];omega,fun r K hK=>?_⟩;obtain⟨K,rfl⟩:∃j,K=j+1:=⟨K-1,by simp at hK;omega⟩;simp only[List.length_cons,List.length_append]at hK;rw[hvi,List.cons_append,cN,if_neg (by simp only;omega),if_neg (by simp only[Int.toNat_natCast,v3];rintro(h | h | h | h)<;>first | omega | exact h rfl)];simp only[Int.toNat_natCast];rw[List.append_assoc,a3 (l2++r) K (by omega)];simp only;rw[b3 r K (by omega)]
structure GoodB (n:Nat) (ws:List Int) (es:List (List Nat)) (b:Bst) (T:Nat→Bool):Prop where
 l:b.l=(List.range n).filter T
 h:∀e∈es,∃v∈e,T v=true
 w:b.w=dX ws T n
theorem wsum_set{ws:List Int}{m:List Nat}{v:Nat}(hv:v<m.length)(h0:m.getD v 0=0):∀n,dX ws (fun u=>decide ((m.set v 1).getD u 0=1)) n=dX ws (fun u=>decide (m.getD u 0=1)) n+if v<n then ws.getD v 0 else 0
 | 0=>by simp[dX]
 | n+1=>by
  rw[dX,dX,wsum_set hv h0 n];by_cases e:v=n
  ·subst e;rw[aX _ hv,h0];simp
  ·rw[af _ e]
   have:v<n+1↔v<n:=by omega
   simp only[this];omega
theorem wsum_set2{ws:List Int}{m:List Nat}{v:Nat}(hv:v<m.length)(h0:m.getD v 0=0):∀n,dX ws (fun u=>decide ((m.set v 2).getD u 0=1)) n=dX ws (fun u=>decide (m.getD u 0=1)) n
 | 0=>by simp[dX]
 | n+1=>by
  rw[dX,dX,wsum_set2 hv h0 n];by_cases e:v=n
  ·subst e;rw[aX _ hv,h0];simp
  ·rw[af _ e]
theorem min_ok{ws:List Int}{es:List (List Nat)}{n:Nat}(he:gq n es):∀(k:Nat) (m:List Nat) (lf:Int) (b:Bst) (w:Int),Wok n ws m→db m<k→2^(db m+1)-1≤lf→w=dX ws (fun u=>decide (m.getD u 0=1)) n →
  ∃lf' b',mb ws es k m lf b w=some (lf',b')∧lf-(2^(db m+1)-1)≤lf'∧b'.w≤b.w∧(∀T,Ext n es m T→b'.w≤w+phi m T ws n)∧(b'=b∨∃T,GoodB n ws es b' T)
 | 0,_,_,_,_,_,h,_,_=>by omega
 | k+1,m,lf,b,w,g,ho,hlf,hw=>by
  have hp1:(1:Int)≤2^db m:=by exact_mod_cast Nat.one_le_two_pow
  rw[Int.pow_succ]at hlf ⊢;rw[mb,if_neg (by omega)]
  have hr:∀v<n,m.getD v 0=0→0≤ws.getD v 0:=fun v hv _=>by have:=g.p v hv;omega
  cases hd:fA m es
  ·rw[if_neg (by simp)];by_cases h2:b.w≤w+(eQ ws es m).2
   ·rw[if_pos h2];refine⟨_,_,rfl,by omega,by omega,fun T hX=>?_,.inl rfl⟩;have:=ny es 0 ws he hX g.le g.lw hr;unfold eQ at h2;omega
   ·rw[if_neg h2];obtain⟨_,_,_,_,_,q6⟩:=ie (m:=m) he es 0 ws (by simp) g.lw hr;unfold eQ at h2
    rcases mN he m with⟨h3,h4⟩ | ⟨v1,v2,v3⟩
    ·rw[if_pos h3];refine⟨_,_,rfl,by omega,by simp only;omega,fun T hX=>?_,.inr ⟨fun u=>decide (m.getD u 0=1),⟨?_,fun e h=>?_,?_⟩⟩⟩
     ·have:=fj (m:=m) (T:=T) n hr;simp only;omega
     ·unfold chosenL;rw[g.lm]
     ·obtain⟨v,hv,h5⟩:=h4 hd e h;exact⟨v,hv,by simpa using h5⟩
     ·exact hw
    ·rw[if_neg (by omega)];obtain⟨v,hv⟩:∃v,v=(brS es m).toNat:=⟨_,rfl⟩;rw[←hv]at v1 v3 ⊢
     have hvm:v<m.length:=by rw[g.lm];exact v1
     have o1:=lL hvm v3 (c:=1) (by omega);have o2:=lL hvm v3 (c:=2) (by omega)
     have hpo:(2:Int)^db m=2^(db (m.set v 1)+1):=by rw[o1]
     have hpo2:(2:Int)^db m=2^(db (m.set v 2)+1):=by rw[o2]
     obtain⟨f1,b1,a1,a2,a3,a4,a5⟩:=min_ok he k (m.set v 1) (lf-1) b (w+ws.getD v 0) (g.set v (by omega)) (by omega) (by rw[←hpo];omega) (by rw[wsum_set hvm v3 n,if_pos v1,hw]);rw[←hpo]at a2;rw[a1];obtain⟨f2,b2,c1,c2,c3,c4,c5⟩:=min_ok he k (m.set v 2) f1 b1 w (g.set v (by omega)) (by omega) (by rw[←hpo2];omega) (by rw[wsum_set2 hvm v3 n,hw]);rw[←hpo2]at c2;refine⟨f2,b2,c1,by omega,by omega,fun T hX=>?_,?_⟩
     ·cases ht:T v
      ·have hX2:Ext n es (m.set v 2) T:=⟨fun u hu h=>by
         by_cases e:v=u
         ·subst e;rw[aX _ hvm]at h;omega
         ·exact hX.c u hu (by rwa [af _ e]at h),fun u hu h=>by
         by_cases e:v=u
         ·subst e;exact ht
         ·exact hX.x u hu (by rwa [af _ e]at h),hX.h⟩
       have:=c4 T hX2;rw[ic T ws hvm v3 (by omega) n,if_neg (by rintro⟨_,h⟩;rw[ht]at h;cases h)]at this;omega
      ·have hX1:Ext n es (m.set v 1) T:=⟨fun u hu h=>by
         by_cases e:v=u
         ·subst e;exact ht
         ·exact hX.c u hu (by rwa [af _ e]at h),fun u hu h=>by
         by_cases e:v=u
         ·subst e;rw[aX _ hvm]at h;omega
         ·exact hX.x u hu (by rwa [af _ e]at h),hX.h⟩
       have:=a4 T hX1;rw[ic T ws hvm v3 (by omega) n,if_pos ⟨v1,ht⟩]at this;omega
     ·rcases c5 with rfl | c5
      ·exact a5
      ·exact .inr c5
  ·rw[if_pos rfl];refine⟨_,_,rfl,by omega,by omega,fun T hX=>?_,.inl rfl⟩;exfalso;obtain⟨e,h1,h2⟩:=List.any_eq_true.1 hd;obtain⟨v,hv,h3⟩:=hX.h e h1;simp only[Bool.and_eq_true,Bool.not_eq_true',fJ,List.any_eq_false,decide_eq_true_eq]at h2;have hn:=(he e h1).2.2 v hv;have:=hX.x v hn (by have:=h2.1 v hv;have:=h2.2 v hv;have:=g.le v hn;omega);rw[h3]at this;cases this
section
section
variable {H:List B} {k0 km:Nat} {f g:Bool} {ws:List Int} {es:List (List Nat)} {n:Nat} {m:List Nat} {lf:Int}
theorem eD{es:List (List Nat)}{i:Nat}(h:i<es.length):es.getD i []=es[i]:=ak _ _ h
theorem shares_h(s:SAt H k0 km f g ws es n m lf)(hb:HsB ws es)(l:List Shr)(fl:Bool)(b:Int):
  az Tryz.prog 171 [.ptr k0 0,LSh fl l,.int .i64 b] H fun r H'=>r = .bool (shE ws es m l b)∧H'=H:=by
 refine fW ?_ (by simp[rb,rb1]) s.rb;have h0:=s.h0;have hlm:=s.lm;have hlw:=s.lw;have hk0:k0<H.length:=aE s.h0;have hkm:km<H.length:=aE s.hm
 have hn2:n≤200:=by have:=hb.n;omega
 have he2:=hb.ne;by_cases hll:l.length≤10000
 ·obtain⟨E,hE⟩:∃E,E=shE ws es m l b:=⟨_,rfl⟩;have hE2:=hE;unfold shE at hE2;rw[decide_eq_true hll,Bool.true_and,hlm]at hE2;rw[←hE];have hm:=s.hm;have hnl:=aw m;refine aD tok Tryz.func171 rfl rfl ?_;refine wx ?_;simp -implicitDefEqProofs -dsimp[Tryz.f171,List.replicate,h0,hm,hnl,hlm,show ¬(10000:Int)<l.length by omega,show(8:Int)*n≤281474976710656 by omega,show(n:Int)≤9223372036854775807 by omega,aQ,LSh,LLn,Ln];refine aK (W_loopM 116 [6,8,10,12,24,25,26,27,28,29,30,31,32,33,34,35,36,37,38,39,40,41,42,43,44,45,46,47,48,49,50,51,52,53,54,55,56,57,58,59,60,61,62,63,64,65,66,67,68,69,70,71,72,73,74,75,76,77,78,79,80,81,82,83,84,85,86,87,88,89,90,91,92,93,94,95,96,97,98,99,100,101,102,103,104,105,106,107,108,109,110,111,112,113,114,115] (by simp[mB]<;>rfl) (σ:=Nat×Int×List Int) (fun p=>p.1≤l.length∧fE ws es m b (l.drop p.1) p.2.2 p.2.1=E∧ldOk n (p.1*200000000000000) p.2.2∧0≤p.2.1∧p.2.1≤p.1*1000000000000) (fun p=>l.length-p.1) (fun p=>[(24,.int .i64 p.1),(8,.int .i64 p.2.1)]) (fun p=>H++[.buf 2 1 (inL p.2.2) false]) (0,0,List.replicate n 0) ⟨by simp,by rw[List.drop_zero];exact hE2.symm,⟨by simp,fun v _=>by rw[dy];simp⟩,by simp,by simp⟩ (by simp) (by simp[inL,ac]) (by simp) ?_);rintro⟨i,sm,ld⟩ ⟨hi,hx,hld,hs0,hs1⟩ N Q hN hQ;simp only at hi hx hld hs0 hs1 hN;by_cases hbi:i<l.length
  ·rw[List.drop_eq_getElem_cons hbi,fE]at hx;obtain⟨x,hxe⟩:∃x,x=l[i]:=⟨_,rfl⟩;rw[←hxe]at hx;have hxl:=hxe.symm;obtain⟨xe,xa⟩:=x;have hok:okS es m ⟨xe,xa⟩=(decide (0≤xe)&&decide (xe<es.length)&&decide (1≤xa)&&decide (xa≤1000000000000)&&!fJ m 1 (es.getD xe.toNat [])):=rfl;rw[hok]at hx;clear hok;simp only at hx;have s2:=s.app [B.buf 2 1 (inL ld) false,B.cells [.int .i64 xe,.int .i64 xa]] (by intro bl h;rcases List.mem_cons.1 h with rfl | h;exact(rbB_buf1 (iE _)).2 trivial;rcases List.mem_cons.1 h with rfl | h;simp[rbB,rb,rb1];cases h);have g0:=s2.h0;have gm:=s2.hm
   have gx:(H++[B.buf 2 1 (inL ld) false,B.cells [.int .i64 xe,.int .i64 xa]])[H.length+1]?=some (B.cells [.int .i64 xe,.int .i64 xa]):=by simp
   by_cases c1:xe<0
   ·skip
    rw[decide_eq_false (by omega)]at hx;simp only[Bool.false_and,Bool.false_eq_true,if_false]at hx;refine wx ?_;simp -implicitDefEqProofs -dsimp[hbi,hxl,gx,c1,aQ,LSh,LLn,Ln];refine .inr ⟨aJ (by kernel_rfl),?_⟩;refine hQ _ _ _ ?_;simp -implicitDefEqProofs -dsimp[aQ,LSh,LLn,Ln];exact hx.symm
   by_cases c2:(es.length:Int)≤xe
   ·skip
    rw[decide_eq_false (show ¬xe<es.length by omega)]at hx;simp only[Bool.and_false,Bool.false_and,Bool.false_eq_true,if_false]at hx;refine wx ?_;simp -implicitDefEqProofs -dsimp[hbi,hxl,gx,g0,c1,c2,aQ,LSh,LLn,Ln];refine .inr ⟨aJ (by kernel_rfl),?_⟩;refine hQ _ _ _ ?_;simp -implicitDefEqProofs -dsimp[aQ,LSh,LLn,Ln];exact hx.symm
   by_cases c3:xa<1
   ·skip
    rw[decide_eq_false (show ¬1≤xa by omega)]at hx;simp only[Bool.and_false,Bool.false_and,Bool.false_eq_true,if_false]at hx;refine wx ?_;simp -implicitDefEqProofs -dsimp[hbi,hxl,gx,g0,c1,c2,c3,aQ,LSh,LLn,Ln];refine .inr ⟨aJ (by kernel_rfl),?_⟩;refine hQ _ _ _ ?_;simp -implicitDefEqProofs -dsimp[aQ,LSh,LLn,Ln];exact hx.symm
   by_cases c4:1000000000000<xa
   ·skip
    rw[decide_eq_false (show ¬xa≤1000000000000 by omega)]at hx;simp only[Bool.and_false,Bool.false_and,Bool.false_eq_true,if_false]at hx;refine wx ?_;simp -implicitDefEqProofs -dsimp[hbi,hxl,gx,g0,c1,c2,c3,c4,aQ,LSh,LLn,Ln];refine .inr ⟨aJ (by kernel_rfl),?_⟩;refine hQ _ _ _ ?_;simp -implicitDefEqProofs -dsimp[aQ,LSh,LLn,Ln];exact hx.symm
   obtain⟨j,rfl⟩:∃j:Nat,xe=j:=⟨xe.toNat,by omega⟩
   have hj:j<es.length:=by omega
   rw[decide_eq_true (show(0:Int)≤j by omega),decide_eq_true (show(j:Int)<es.length by omega),decide_eq_true (show 1≤xa by omega),decide_eq_true (show xa≤1000000000000 by omega),Int.toNat_natCast,eD hj]at hx;simp only[Bool.true_and]at hx;obtain⟨e1,e2,e3⟩:=hb.ed es[j] (List.getElem_mem hj);have e4:=hb.ed.len es[j] (List.getElem_mem hj);obtain⟨e,he⟩:∃e,e=es[j]:=⟨_,rfl⟩;rw[←he]at hx e1 e2 e3 e4;have hej:=he.symm;have ch:=has_h s2 e false 1 (by omega) (fun v hv=>by have:=e3 v hv;omega);simp only[Ln]at ch
   cases hh:fJ m 1 e with
   | true =>
    rw[hh]at hx ch;simp only[Bool.not_true,Bool.false_eq_true,if_false]at hx;refine wx ?_;simp -implicitDefEqProofs -dsimp[hbi,hxl,gx,g0,c1,hj,hej,c3,c4,show ¬(es.length:Int)≤j by omega,aQ,LSh,LLn,Ln];refine .inr ⟨aJ (by kernel_rfl),?_⟩;refine aj _ (bJ ch fun _ _ h=>h) ?_;simp -implicitDefEqProofs -dsimp[aQ,LSh,LLn,Ln];refine hQ _ _ _ ?_;simp -implicitDefEqProofs -dsimp[aQ,LSh,LLn,Ln];exact hx.symm
   | false =>
    rw[hh]at hx ch;simp only[Bool.not_false,if_true]at hx;have hw1:IntKind.i64.wrap (sm+xa)=sm+xa:=wrap64 (by omega) (by omega);refine wx ?_;simp -implicitDefEqProofs -dsimp[hbi,hxl,gx,g0,c1,hj,hej,c3,c4,show ¬(es.length:Int)≤j by omega,aQ,LSh,LLn,Ln];refine .inr ⟨aJ (by kernel_rfl),?_⟩;refine aj _ (bJ ch fun _ _ h=>h) ?_;simp -implicitDefEqProofs -dsimp[hw1,gx,g0,hj,hej,aQ,LSh,LLn,Ln];refine .inr ⟨aJ (by kernel_rfl),?_⟩
    have hE0:0≤(i:Int)*200000000000000:=by omega
    refine aK (W_loopM 115 [6,12,79,80,81,82,83,84,85,86,87,88,89,90,91,92,93,94,95,96,97,98,99,100,101,102,103,104,105,106,107,108,109,110,111,112,113,114] (by simp[mB]<;>rfl) (σ:=Nat×List Int) (fun q=>q.1≤e.length∧(match nN m ws xa (e.drop q.1) q.2 with | none=>false | some ld'=>fE ws es m b (l.drop (i+1)) ld' (sm+xa))=E∧ldOk n (i*200000000000000+q.1*1000000000000) q.2) (fun q=>e.length-q.1) (fun q=>[(79,.int .i64 q.1)]) (fun q=>H++[.buf 2 1 (inL q.2) false,.cells [.int .i64 j,.int .i64 xa]]) (0,ld) ⟨by simp,by rw[List.drop_zero];exact hx,by simpa using hld⟩ (by simp) (by simp) (by simp) ?_);rintro⟨k,ld2⟩ ⟨hk,hy,hl2⟩ N2 Q2 hN2 hQ2;simp only at hk hy hl2 hN2
    have g9:(H++[B.buf 2 1 (inL ld2) false,B.cells [.int .i64 j,.int .i64 xa]])[H.length]?=some (B.buf 2 1 (inL ld2) false):=by simp
    have gx2:(H++[B.buf 2 1 (inL ld2) false,B.cells [.int .i64 j,.int .i64 xa]])[H.length+1]?=some (B.cells [.int .i64 j,.int .i64 xa]):=by simp
    by_cases hbk:k<e.length
    ·rw[List.drop_eq_getElem_cons hbk,nN]at hy;have hvn:=e3 e[k] (List.getElem_mem hbk);obtain⟨v,hv⟩:∃v,v=e[k]:=⟨_,rfl⟩;rw[←hv]at hy hvn;have hev:=hv.symm;obtain⟨z1,z2⟩:=hl2.2 v (by omega);have hset:=hl2.set (A':=(i:Int)*200000000000000+((k+1:Nat):Int)*1000000000000) (by omega) (v:=v) (a:=xa) (by omega) (by omega) (by omega)
     have hgl:=fun h=>ef (m:=ld2) (x:=v) h
     have hll2:=ee ld2;have hl21:=hl2.1;have hst:=lV ld2 v (ld2.getD v 0+xa);obtain⟨z,hz⟩:∃z,z=ld2.getD v 0:=⟨_,rfl⟩;rw[←hz]at hgl hy hset hst z1 z2;have hw2:IntKind.i64.wrap (z+xa)=z+xa:=wrap64 (by omega) (by omega)
     have hvn2:v<n:=by omega
     have hs9:(H++[B.buf 2 1 (inL ld2) false,B.cells [.int .i64 j,.int .i64 xa]]).set H.length (B.buf 2 1 (inL (ld2.set v (z+xa))) false)=H++[B.buf 2 1 (inL (ld2.set v (z+xa))) false,B.cells [.int .i64 j,.int .i64 xa]]:=by simp[List.set_append_right]
     refine wx ?_;simp -implicitDefEqProofs -dsimp[hbk,hev,eN,aQ,LSh,LLn,Ln];obtain⟨HH,hHH⟩:∃HH,HH=H++[B.buf 2 1 (inL ld2) false,B.cells [.int .i64 j,.int .i64 xa]]:=⟨_,rfl⟩;rw[←hHH]at g9 gx2 hs9 ⊢;refine aK (ai tok mixed [8] [] [] (by kernel_rfl) fun C K hC hK=>?_);simp -implicitDefEqProofs [g9,gx2,hgl,hll2,hl21,hvn2,hw2,hst,hs9,aQ,LSh,LLn,Ln];refine hK _ _ ?_;have s4:=s.app [B.buf 2 1 (inL (ld2.set v (z+xa))) false,B.cells [.int .i64 j,.int .i64 xa]] (by intro bl h;rcases List.mem_cons.1 h with rfl | h;exact(rbB_buf1 (iE _)).2 trivial;rcases List.mem_cons.1 h with rfl | h;simp[rbB,rb,rb1];cases h);have q0:=s4.h0;have qm:=s4.hm
     have q9:(H++[B.buf 2 1 (inL (ld2.set v (z+xa))) false,B.cells [.int .i64 j,.int .i64 xa]])[H.length]?=some (B.buf 2 1 (inL (ld2.set v (z+xa))) false):=by simp
     have hgl4:=fun h=>ef (m:=ld2.set v (z+xa)) (x:=v) h
     have hll4:=ee (ld2.set v (z+xa));have hl41:=hset.1;rw[aX _ (by omega)]at hgl4
     have hat:=fun h=>bO (m:=m) (x:=v) h
     have hvw:v<ws.length:=by omega
     have hwl:=(ak ws 0 hvw).symm;obtain⟨w,hw⟩:∃w,w=ws.getD v 0:=⟨_,rfl⟩;obtain⟨c,hc⟩:∃c,c=m.getD v 0:=⟨_,rfl⟩;rw[←hc]at hat hy;rw[←hw]at hwl hy;by_cases hc0:c=0
     ·subst hc0;by_cases hlt:w<z+xa
      ·rw[if_pos ⟨rfl,hlt⟩]at hy;simp only at hy;simp -implicitDefEqProofs -dsimp[q0,qm,q9,hgl4,hll4,hl41,hat,hnl,hlm,hvn2,hvw,hwl,hlt,ac,L1,aQ,LSh,LLn,Ln];refine .inr ⟨aJ (by kernel_rfl),?_⟩;refine hQ2 _ _ _ ?_;simp -implicitDefEqProofs -dsimp[aQ,LSh,LLn,Ln];refine hQ _ _ _ ?_;simp -implicitDefEqProofs -dsimp[aQ,LSh,LLn,Ln];exact hy.symm
      ·rw[if_neg (fun h=>hlt h.2)]at hy;simp -implicitDefEqProofs -dsimp[q0,qm,q9,hgl4,hll4,hl41,hat,hnl,hlm,hvn2,hvw,hwl,hlt,ac,L1,aQ,LSh,LLn,Ln];refine .inr ⟨aJ (by kernel_rfl),?_⟩;simp -implicitDefEqProofs -dsimp[aM k (by omega),aQ,LSh,LLn,Ln];refine hN2 (k+1,ld2.set v (z+xa)) _ _ ⟨by simp only;omega,hy,hset⟩ (by simp only;omega) (by simp) ⟨[],by simp⟩ (by simp;omega) s4.rb
     ·rw[if_neg (fun h=>hc0 h.1)]at hy;simp -implicitDefEqProofs -dsimp[q0,qm,q9,hgl4,hll4,hl41,hat,hnl,hlm,hvn2,hc0,show ¬((c:Int)=0) by omega,aQ,LSh,LLn,Ln];refine .inr ⟨aJ (by kernel_rfl),?_⟩;simp -implicitDefEqProofs -dsimp[aM k (by omega),aQ,LSh,LLn,Ln];refine hN2 (k+1,ld2.set v (z+xa)) _ _ ⟨by simp only;omega,hy,hset⟩ (by simp only;omega) (by simp) ⟨[],by simp⟩ (by simp;omega) s4.rb
    ·have s3:=s.app [B.buf 2 1 (inL ld2) false] (by intro bl h;rcases List.mem_cons.1 h with rfl | h;exact(rbB_buf1 (iE _)).2 trivial;cases h);rw[List.drop_of_length_le (by omega),nN]at hy;simp only at hy;refine wx ?_;simp -implicitDefEqProofs -dsimp[hbk,aQ,LSh,LLn,Ln];refine hQ2 _ _ _ ?_;simp -implicitDefEqProofs -dsimp[aM i (by omega),aQ,LSh,LLn,Ln];refine hN (i+1,sm+xa,ld2) _ _ ⟨by simp only;omega,hy,⟨hl2.1,fun v hv=>?_⟩,by simp only;omega,by simp only;omega⟩ (by simp only;omega) (by simp) ⟨[B.cells [.int .i64 j,.int .i64 xa]],by simp⟩ (by simp;omega) s3.rb;have:=hl2.2 v hv;simp only;omega
  ·rw[List.drop_of_length_le (by omega),fE]at hx;by_cases hq:b≤sm
   ·rw[decide_eq_true hq]at hx;refine wx ?_;simp -implicitDefEqProofs -dsimp[hbi,aQ,LSh,LLn,Ln];refine hQ _ _ _ ?_;simp -implicitDefEqProofs -dsimp[hq,aQ,LSh,LLn,Ln];exact hx.symm
   ·rw[decide_eq_false hq]at hx;refine wx ?_;simp -implicitDefEqProofs -dsimp[hbi,aQ,LSh,LLn,Ln];refine hQ _ _ _ ?_;simp -implicitDefEqProofs -dsimp[hq,aQ,LSh,LLn,Ln];exact hx.symm
 ·rw[show shE ws es m l b=false by unfold shE;rw[decide_eq_false hll,Bool.false_and]];refine aD tok Tryz.func171 rfl rfl ?_;refine wx ?_;simp -implicitDefEqProofs -dsimp[Tryz.f171,List.replicate,LSh,show(10000:Int)<l.length by omega]
end
end
def encR(fl:Bool):Option (List Nde)→V
 | none=>.nilS
 | some l=>LNd fl l
@[simp] theorem encR_pure (fl:Bool) (o:Option (List Nde)):AM.Pure (encR fl o):=by cases o<;>simp[encR]
@[simp] theorem encR_oneV (fl:Bool) (o:Option (List Nde)):dc (encR fl o)=true:=by cases o<;>rfl
theorem encR_rb(n:Nat)(fl:Bool)(o:Option (List Nde)):rb1 n (encR fl o):=oo (encR_pure fl o) (by cases o<;>rfl)
theorem chk_nil(ws:List Int)(es:List (List Nat))(k:Nat)(m:List Nat)(b:Int):cN ws es k m [] b=(none,false):=by cases k<;>rfl
theorem oG(ws:List Int)(es:List (List Nat)):∀(k:Nat) (m:List Nat) (l:List Nde) (b:Int) (r:List Nde),(cN ws es k m l b).1=some r→r.length≤l.length
 | 0,m,l,b,r,h=>by simp[cN]at h
 | k+1,m,[],b,r,h=>by simp[cN]at h
 | k+1,m,x::l,b,r,h=>by
  rw[cN]at h;split at h
  ·simp only[Option.some.injEq]at h;subst h;simp
  ·split at h
   ·cases h
   ·split at h
    ·rename_i r' hr;have h1:=oG ws es k _ _ _ _ (congrArg Prod.fst hr);have h2:=oG ws es k _ _ _ _ h;simp;omega
    ·have:=oG ws es k _ _ _ _ h;simp;omega
theorem mI(ws:List Int)(es:List (List Nat)):∀(k:Nat) (m:List Nat) (l:List Nde) (b:Int),(cN ws es k m l b).2=true→∃r,(cN ws es k m l b).1=some r
 | 0,m,l,b,h=>by simp[cN]at h
 | k+1,m,[],b,h=>by simp[cN]at h
 | k+1,m,x::l,b,h=>by
  rw[cN]at h ⊢;split
  ·exact⟨_,rfl⟩
  ·rename_i h1;rw[if_neg h1]at h;split
   ·rename_i h2;rw[if_pos h2]at h;cases h
   ·rename_i h2;rw[if_neg h2]at h;have ih:=mI ws es k (m.set x.v.toNat 1) l (b-ws.getD x.v.toNat 0)
    revert h ih
    generalize cN ws es k (m.set x.v.toNat 1) l (b-ws.getD x.v.toNat 0)=p;obtain⟨p1,p2⟩:=p;cases p2
    ·intro h;cases p1<;>cases h
    ·cases p1 with
     | none=>intro _ ih;obtain⟨r,hr⟩:=ih rfl;cases hr
     | some r'=>intro h _;exact mI ws es k _ _ _ h
theorem SAt.back1{H:List B}{k0 km:Nat}{f g:Bool}{ws:List Int}{es:List (List Nat)}{n:Nat}{m:List Nat}{lf:Int}(s:SAt H k0 km f g ws es n m lf)(b:B):(H.set km b).set km (.buf 3 1 (nuL m) false)=H:=by
 have:=s.back b b;rw[List.set_set,List.set_set]at this;rw[List.set_set];exact this
theorem check_h{k0 km:Nat}{f g:Bool}{ws:List Int}{es:List (List Nat)}{n:Nat}{lf:Int}(hb:HsB ws es)(fl:Bool)(k:Nat):∀(l:List Nde) (H:List B) (m:List Nat) (b:Int),SAt H k0 km f g ws es n m lf→l.length≤k→-9000000000000000000+1000000*(l.length:Int)≤b→b≤9000000000000000000 →
  az Tryz.prog 125 [.ptr k0 0,LNd fl l,.int .i64 b] H fun r H'=>r = .tup [encR fl (cN ws es k m l b).1,.bool (cN ws es k m l b).2]∧H'=H:=by
 induction k with
 | zero =>
  intro l H m b s hk hb1 hb2;have:l=[]:=List.length_eq_zero_iff.1 (by omega);subst this;rw[chk_nil];refine aD tok Tryz.func125 rfl rfl ?_;refine wx ?_;simp -implicitDefEqProofs -dsimp[Tryz.f125,List.replicate,LNd];rfl
 | succ k ih =>
  intro l H m b s hk hb1 hb2
  cases l with
  | nil =>
   rw[chk_nil];refine aD tok Tryz.func125 rfl rfl ?_;refine wx ?_;simp -implicitDefEqProofs -dsimp[Tryz.f125,List.replicate,LNd];rfl
  | cons x r =>
   simp only[List.length_cons]at hk hb1;refine fW ?_ (by intro c hc;simp at hc;rcases hc with rfl | rfl;exact encR_rb _ _ _;trivial) s.rb;have hk0:k0<H.length:=aE s.h0;have hkm:km<H.length:=aE s.hm;have hlm:=s.lm;have hlw:=s.lw
   have hn2:n≤200:=by have:=hb.n;omega
   obtain⟨xv,xl⟩:=x;obtain⟨P,hP⟩:∃P,P=cN ws es (k+1) m (⟨xv,xl⟩::r) b:=⟨_,rfl⟩;rw[←hP];rw[cN]at hP;simp only at hP;have s2:=s.app [B.cells [.int .i64 xv,LSh false xl]] (by simp[rbB,rb,rb1,LSh])
   have gx:(H++[B.cells [.int .i64 xv,LSh false xl]])[H.length]?=some (B.cells [.int .i64 xv,LSh false xl]):=by simp
   have hes:es.length≤1000000:=by have:=hb.ne;omega
   have hel:∀e∈es,e.length≤1000000:=fun e he=>by have:=hb.ed.len e he;have:=hb.n;omega
   have hed:gq n es:=hlw▸hb.ed;have cd:=dead_h s2 hed hes hel;have cs:=shares_h s2 hb xl false b;simp only[LSh]at gx cs s2 cd;have htk:List.take r.length (r.map aT)=r.map aT:=List.take_of_length_le (by simp);have g0:=s2.h0;have gm:=s2.hm;have hnl:=aw m
   have hrl:¬((r.length:Int)+1=0):=by omega
   obtain⟨D,hD⟩:∃D,D=fA m es:=⟨_,rfl⟩;rw[←hD]at cd hP;obtain⟨S,hS⟩:∃S,S=shE ws es m xl b:=⟨_,rfl⟩;rw[←hS]at cs hP;refine aD tok Tryz.func125 rfl rfl ?_;refine wx ?_;simp -implicitDefEqProofs -dsimp[Tryz.f125,List.replicate,LNd,hrl,aT,LSh];refine aK (ai tok mixed [5,6] [(0,[1]),(1,[1]),(2,[1]),(3,[1,2]),(4,[1,2])] [] (by kernel_rfl) fun C K hC hK=>?_);simp -implicitDefEqProofs [LNd,htk,aT,LSh];refine hK _ _ ?_;obtain⟨HH,hHH⟩:∃HH,HH=H++[B.cells [.int .i64 xv,.lst 2 false (xl.map aQ)]]:=⟨_,rfl⟩;have hex:∃G,HH=H++G:=⟨_,hHH⟩;rw[←hHH]at s2 gx cd cs g0 gm ⊢;clear hC hK C K;by_cases c1:xv = -1
   ·rw[if_pos c1]at hP;subst c1
    cases xl with
    | nil =>
     rw[if_pos rfl]at hP;by_cases c2:b≤0
     ·rw[decide_eq_true c2,Bool.true_or]at hP;subst hP;simp -implicitDefEqProofs -dsimp[gx,c2,aT,LSh];exact⟨rfl,hex⟩
     ·rw[decide_eq_false c2,Bool.false_or]at hP;subst hP;simp -implicitDefEqProofs -dsimp[gx,c2,aT,LSh];refine bJ cd ?_;rintro _ _ ⟨rfl,rfl⟩;simp -implicitDefEqProofs -dsimp[aT,LSh];exact⟨rfl,hex⟩
    | cons y ys =>
     rw[if_neg (by simp)]at hP;subst hP
     have hyl:¬((ys.length:Int)+1=0):=by omega
     simp -implicitDefEqProofs -dsimp[gx,hyl,aT,LSh];refine bJ cs ?_;rintro _ _ ⟨rfl,rfl⟩;simp -implicitDefEqProofs -dsimp[aT,LSh];exact⟨rfl,hex⟩
   ·rw[if_neg c1]at hP;by_cases c2:xv<0
    ·rw[if_pos (.inl c2)]at hP;subst hP;simp -implicitDefEqProofs -dsimp[gx,g0,c1,c2,aT,LSh];refine .inr ⟨aJ (by kernel_rfl),?_⟩;exact⟨rfl,hex⟩
    by_cases c3:(n:Int)≤xv
    ·rw[if_pos (.inr (.inl (hlm▸c3)))]at hP;subst hP;simp -implicitDefEqProofs -dsimp[gx,g0,gm,hnl,hlm,c1,c2,c3,aT,LSh];refine .inr ⟨aJ (by kernel_rfl),?_⟩;exact⟨rfl,hex⟩
    by_cases c4:xl=[]
    ·subst c4;obtain⟨v,rfl⟩:∃v:Nat,xv=v:=⟨xv.toNat,by omega⟩
     have hvn:v<n:=by omega
     have hat:=fun h=>bO (m:=m) (x:=v) h
     obtain⟨c,hc⟩:∃c,c=m.getD v 0:=⟨_,rfl⟩;by_cases c5:c=0
     ·rw[if_neg (by rw[Int.toNat_natCast,←hc,hlm];rintro(h | h | h | h)<;>first | omega | exact h rfl | exact h c5)]at hP;rw[Int.toNat_natCast]at hP;rw[←hc,c5]at hat
      have c6:¬((n:Int)≤v):=by omega
      simp -implicitDefEqProofs -dsimp[gx,g0,gm,c1,c2,c6,hat,hnl,hlm,hvn,aT,LSh];refine .inr ⟨aJ (by kernel_rfl),?_⟩
      have hvw:v<ws.length:=by omega
      have hwl:=(ak ws 0 hvw).symm;have hwb:=hb.w v hvw;obtain⟨w,hw⟩:∃w,w=ws.getD v 0:=⟨_,rfl⟩;rw[←hw]at hwl hwb hP;have hbw:IntKind.i64.wrap (b-w)=b-w:=wrap64 (by omega) (by omega)
      have hm0:m.set v 0=m:=by
       have:m[v]'(by omega)=0:=by rw[←ak m 0 (by omega),←hc];exact c5
       conv=>rhs;rw[←List.set_getElem_self (show v<m.length by omega)]
       rw[this]
      have hst1:(nuL m).set v (.int .i64 1)=nuL (m.set v 1):=cR m v 1;have hst2:(nuL (m.set v 1)).set v (.int .i64 2)=nuL (m.set v 2):=(cR (m.set v 1) v 2).trans (by rw[List.set_set]);have hst3:(nuL (m.set v 1)).set v (.int .i64 0)=nuL m:=(cR (m.set v 1) v 0).trans (by rw[List.set_set,hm0]);have hst4:(nuL (m.set v 2)).set v (.int .i64 0)=nuL m:=(cR (m.set v 2) v 0).trans (by rw[List.set_set,hm0]);refine aK (ai tok mixed [7] [] [] (by kernel_rfl) fun C K hC hK=>?_);simp -implicitDefEqProofs [gx,g0,gm,hat,hnl,hlm,hvn,hst1,aT,LSh];refine hK _ _ ?_;clear hC hK C K;have s3:=s2.mark v 1;have s4:=s2.mark v 2;have hb3:=s2.back1 (.buf 3 1 (nuL (m.set v 1)) false);have hb4:=s2.back1 (.buf 3 1 (nuL (m.set v 2)) false)
      have hkn:km≠H.length:=by omega
      have gx3:(HH.set km (.buf 3 1 (nuL (m.set v 1)) false))[H.length]?=some (B.cells [.int .i64 v,.lst 2 false []]):=by rw[List.getElem?_set_ne hkn];exact gx
      have gx4:(HH.set km (.buf 3 1 (nuL (m.set v 2)) false))[H.length]?=some (B.cells [.int .i64 v,.lst 2 false []]):=by rw[List.getElem?_set_ne hkn];exact gx
      have hs34:(HH.set km (.buf 3 1 (nuL (m.set v 1)) false)).set km (.buf 3 1 (nuL (m.set v 2)) false)=HH.set km (.buf 3 1 (nuL (m.set v 2)) false):=by rw[List.set_set]
      obtain⟨H3,hH3⟩:∃H3,H3=HH.set km (.buf 3 1 (nuL (m.set v 1)) false):=⟨_,rfl⟩;obtain⟨H4,hH4⟩:∃H4,H4=HH.set km (.buf 3 1 (nuL (m.set v 2)) false):=⟨_,rfl⟩;rw[←hH3]at s3 hb3 gx3 hs34 ⊢;rw[←hH4]at s4 hb4 gx4 hs34;have h03:=s3.h0;have hm3:=s3.hm;have h04:=s4.h0;have hm4:=s4.hm
      have hat3:=fun h=>bO (m:=m.set v 1) (x:=v) h
      have hat4:=fun h=>bO (m:=m.set v 2) (x:=v) h
      have nl3:=aw (m.set v 1);have nl4:=aw (m.set v 2);rw[List.length_set]at nl3 nl4;have i3:=ih r H3 (m.set v 1) (b-w) s3 (by omega) (by omega) (by omega);have hsome:=mI ws es k (m.set v 1) r (b-w);have hlen:=oG ws es k (m.set v 1) r (b-w);obtain⟨p,hp⟩:∃p,p=cN ws es k (m.set v 1) r (b-w):=⟨_,rfl⟩;rw[←hp]at i3 hsome hlen hP;obtain⟨p1,p2⟩:=p;simp only[LNd]at i3;simp -implicitDefEqProofs -dsimp[gx3,h03,hm3,hvw,hwl,hbw,L1,ac,aT,LSh];refine .inr ⟨aJ (by kernel_rfl),?_⟩;refine aj _ (bJ i3 fun _ _ h=>h) ?_
      cases p2 with
      | false =>
       have hP2:P=(p1,false):=by rw[hP];cases p1<;>rfl
       subst hP2;simp -implicitDefEqProofs -dsimp[aT,LSh];refine aK (ai tok mixed [7] [] [] (by kernel_rfl) fun C K hC hK=>?_);simp -implicitDefEqProofs [gx3,h03,hm3,hat3,nl3,hlm,hvn,hst3,hb3,aT,LSh];refine hK _ _ ?_;simp -implicitDefEqProofs -dsimp[aT,LSh];exact hex
      | true =>
       obtain⟨r',hr'⟩:=hsome rfl;simp only at hr';subst hr';have hlr:=hlen r' rfl;simp only at hP;have i4:=ih r' H4 (m.set v 2) b s4 (by omega) (by omega) hb2;rw[←hP]at i4;simp -implicitDefEqProofs -dsimp[encR,aT,LSh];refine aK (ai tok mixed [7] [] [] (by kernel_rfl) fun C K hC hK=>?_);simp -implicitDefEqProofs [gx3,h03,hm3,hat3,nl3,hlm,hvn,hst2,hs34,aT,LSh];refine hK _ _ ?_;clear hC hK C K;simp -implicitDefEqProofs -dsimp[aT,LSh];refine bJ i4 ?_;rintro _ _ ⟨rfl,rfl⟩;simp -implicitDefEqProofs -dsimp[aT,LSh];refine aK (ai tok mixed [7] [] [] (by kernel_rfl) fun C K hC hK=>?_);simp -implicitDefEqProofs [gx4,h04,hm4,hat4,nl4,hlm,hvn,hst4,hb4,aT,LSh];refine hK _ _ ?_;simp -implicitDefEqProofs -dsimp[aT,LSh];exact hex
     ·rw[if_pos (.inr (.inr (.inr (by rw[Int.toNat_natCast,←hc];exact c5))))]at hP;rw[←hc]at hat;subst hP;simp -implicitDefEqProofs -dsimp[gx,g0,gm,c1,c2,c3,hat,hnl,hlm,hvn,c5,show ¬((c:Int)=0) by omega,aT,LSh];refine .inr ⟨aJ (by kernel_rfl),?_⟩;exact⟨rfl,hex⟩
    ·rw[if_pos (.inr (.inr (.inl c4)))]at hP;subst hP;have hyl:=List.length_pos_iff.2 c4;simp -implicitDefEqProofs -dsimp[gx,g0,gm,hnl,hlm,c1,c2,c3,hyl,c4,aT,LSh];refine .inr ⟨aJ (by kernel_rfl),?_⟩;exact⟨rfl,hex⟩
def ah(f g:Bool)(ws:List Int)(es:List (List Nat)):V:=.agg [L1 f ws,LLn g es]
@[simp] theorem encHn_pure (f g:Bool) (ws:List Int) (es:List (List Nat)):AM.Pure (ah f g ws es):=by simp[ah]
def cst(es:List (List Nat)):List (List Int):=es.map fun e=>e.map fun(v:Nat)=>(v:Int)
theorem LLi_cst(g:Bool)(es:List (List Nat)):LLi g (cst es)=LLn g es:=by
 simp[LLi,LLn,cst,L1,Ln,ac,eN,Function.comp_def]
theorem encHs_cst(f g:Bool)(ws:List Int)(es:List (List Nat)):jD f g ws (cst es)=ah f g ws es:=by
 unfold jD ah;rw[LLi_cst]
def jI(ws:List Int)(es:List (List Nat)):Int:=mR ws (cst es)
theorem kv(n:Nat):∀(e:List Nat) (last:Int),gC n last (e.map fun(v:Nat)=>(v:Int))=true↔(∀v∈e,last<v∧v<n)∧e.Pairwise (· < ·)
 | [],last=>by simp[gC]
 | v::e,last=>by
  rw[List.map_cons,gC,Bool.and_eq_true,Bool.and_eq_true,kv n e v];simp only[decide_eq_true_eq,List.forall_mem_cons,List.pairwise_cons];constructor
  ·rintro⟨⟨h1,h2⟩,h3,h4⟩;exact⟨⟨⟨h1,by omega⟩,fun u hu=>⟨by have:=(h3 u hu).1;omega,(h3 u hu).2⟩⟩,fun u hu=>by have:=(h3 u hu).1;omega,h4⟩
  ·rintro⟨⟨⟨h1,h2⟩,h3⟩,h4,h5⟩;exact⟨⟨h1,by omega⟩,fun u hu=>⟨by have:=h4 u hu;omega,(h3 u hu).2⟩,h5⟩
theorem eT{ws:List Int}{es:List (List Nat)} : jI ws es=0↔HsB ws es:=by
 unfold jI mR;constructor
 ·intro h;split at h
  ·cases h
  ·rename_i h1;split at h
   ·rename_i h2;unfold jM at h;split at h
    ·rename_i h3;rw[List.all_eq_true]at h2 h3;refine⟨fun v hv=>?_,by omega,by simp[cst]at h1;omega,fun e he=>?_⟩
     ·have:=h2 _ (List.getElem_mem hv);rw[ak _ _ hv];simpa[wOk] using this
     ·have:=h3 (e.map fun(v:Nat)=>(v:Int)) (List.mem_map.2 ⟨e,he,rfl⟩);rw[eOk,Bool.and_eq_true,kv]at this;exact⟨by rintro rfl;simp at this,this.1.2,fun v hv=>(this.1.1 v hv).2⟩
    ·cases h
   ·cases h
 ·rintro⟨h1,h2,h3,h4⟩;rw[if_neg (by simp[cst];omega),if_pos ?_,jM,if_pos ?_]
  ·rw[List.all_eq_true];intro x hx;obtain⟨e,he,rfl⟩:=List.mem_map.1 hx;obtain⟨e1,e2,e3⟩:=h4 e he;rw[eOk,Bool.and_eq_true,kv];refine⟨⟨fun v hv=>⟨by omega,e3 v hv⟩,e2⟩,?_⟩
   cases e with
   | nil=>exact absurd rfl e1
   | cons a b=>rfl
  ·rw[List.all_eq_true];intro w hw;obtain⟨i,hi,rfl⟩:=List.mem_iff_getElem.1 hw;have:=h1 i hi;rw[ak _ _ hi]at this;simpa[wOk] using this
theorem lW(ws:List Int)(es:List (List Nat))(f g:Bool)(hl:∀e∈es,e.length≤1000000):aS Tryz.prog 107 [ah f g ws es] fun r=>r = .int .i64 (jI ws es):=by
 have:=hsValid ws (cst es) f g (fun e he=>by obtain⟨e',h,rfl⟩:=List.mem_map.1 he;rw[List.length_map];exact hl e' h)
 rwa [encHs_cst]at this
def nsH(H:List B)(f g:Bool)(ws:List Int)(es:List (List Nat))(lf:Int):List B:=H++[.cells [L1 f ws,LLn g es],.buf 3 1 (nuL (List.replicate ws.length 0)) false,.cells [L1 f ws,LLn g es,.buf (H.length+1) 0 ws.length ws.length,.int .i64 lf]]
theorem nsH_at{H:List B}(hH:∀bl∈H,rbB H.length bl)(f g:Bool)(ws:List Int)(es:List (List Nat))(lf:Int):SAt (nsH H f g ws es lf) (H.length+2) (H.length+1) f g ws es ws.length (List.replicate ws.length 0) lf:=by
 refine⟨by simp[nsH],by simp[nsH],?_,by simp,rfl,by omega⟩;refine rbs_app hH ?_;intro bl hb
 rcases List.mem_cons.1 hb with rfl | hb
 ·intro c hc;simp at hc;rcases hc with rfl | rfl<;>exact cG (by simp) rfl
 rcases List.mem_cons.1 hb with rfl | hb
 ·exact(rbB_buf1 (cY _)).2 trivial
 rcases List.mem_cons.1 hb with rfl | hb
 ·intro c hc;simp at hc;rcases hc with rfl | rfl | rfl | rfl
  ·exact cG (by simp) rfl
  ·exact cG (by simp) rfl
  ·simp[rb,rb1]
  ·trivial
 ·cases hb
theorem jQ(H:List B)(f g:Bool)(ws:List Int)(es:List (List Nat))(lf:Int)(hn:ws.length≤200):
  az Tryz.prog 105 [ah f g ws es,.int .i64 lf] H fun r H'=>r = .ptr (H.length+2) 0∧H'=nsH H f g ws es lf:=by
 have g0:(H++[B.cells [L1 f ws,LLn g es]])[H.length]?=some (B.cells [L1 f ws,LLn g es]):=by simp
 have hr:List.replicate ws.length (V.int .i64 0)=nuL (List.replicate ws.length 0):=by simp[nuL,eN]
 refine aD tok Tryz.func105 rfl rfl ?_;refine wx ?_;simp -implicitDefEqProofs -dsimp[Tryz.f105,List.replicate,ah];refine aK (ai tok mixed [4,7] [(0,[1]),(5,[0])] [] (by kernel_rfl) fun C K hC hK=>?_);simp -implicitDefEqProofs [g0,L1,LLn,hr,show(8:Int)*ws.length≤281474976710656 by omega,show(ws.length:Int)≤9223372036854775807 by omega];refine hK _ _ ?_;simp -implicitDefEqProofs -dsimp[];simp[nsH,L1,LLn]
def eL(ws:List Int)(es:List (List Nat))(b:Int)(l:List Nde):Bool:=if jI ws es=0 then(if b < -1000000000000000∨1000000000000000<b then false else nA ws es b l) else false
theorem hsCheck(ws:List Int)(es:List (List Nat))(f g fl:Bool)(b:Int)(l:List Nde)(hl:∀e∈es,e.length≤1000000)(hp:l.length≤1000000):aS Tryz.prog 76 [ah f g ws es,.int .i64 b,LNd fl l] fun r=>r = .bool (eL ws es b l):=by
 have cv:=lW ws es f g hl;obtain⟨E,hE⟩:∃E,E=jI ws es:=⟨_,rfl⟩;unfold eL;rw[←hE]at cv ⊢;simp only[ah]at cv;by_cases h0:E=0
 ·rw[if_pos h0];have hb:=eT.1 (hE.symm.trans h0);subst h0;by_cases h1:b < -1000000000000000
  ·rw[if_pos (.inl h1)];refine aC (aD tok Tryz.func76 rfl rfl ?_);refine wx ?_;simp -implicitDefEqProofs -dsimp[Tryz.f76,List.replicate,ah];refine(aG (cv) (by simp)).mono ?_;rintro r H' ⟨rfl,rfl⟩;simp -implicitDefEqProofs -dsimp[h1]
  ·by_cases h2:1000000000000000<b
   ·rw[if_pos (.inr h2)];refine aC (aD tok Tryz.func76 rfl rfl ?_);refine wx ?_;simp -implicitDefEqProofs -dsimp[Tryz.f76,List.replicate,ah];refine(aG (cv) (by simp)).mono ?_;rintro r H' ⟨rfl,rfl⟩;simp -implicitDefEqProofs -dsimp[h1,h2]
   ·rw[if_neg (fun h=>h.elim h1 h2)];have c1:=jQ [B.cells [L1 f ws,LLn g es]] f g ws es 0 hb.n;have sa:=nsH_at (H:=[B.cells [L1 f ws,LLn g es]]) (by intro bl hb;simp at hb;subst hb;intro c hc;simp at hc;rcases hc with rfl | rfl<;>exact cG (by simp) rfl) f g ws es 0;have c2:=check_h hb fl (l.length+1) l _ _ b sa (by omega) (by omega) (by omega)
    have hch:nA ws es b l=(match cN ws es (l.length+1) (List.replicate ws.length 0) l b with
     | (some r,true)=>decide (r.length=0)
     | _=>false):=rfl
    rw[hch];have hsome:=mI ws es (l.length+1) (List.replicate ws.length 0) l b;obtain⟨p,hp⟩:∃p,p=cN ws es (l.length+1) (List.replicate ws.length 0) l b:=⟨_,rfl⟩;rw[←hp]at c2 hsome ⊢;obtain⟨p1,p2⟩:=p;simp only[ah]at c1;refine aC (aD tok Tryz.func76 rfl rfl ?_);refine wx ?_;simp -implicitDefEqProofs -dsimp[Tryz.f76,List.replicate,ah];refine(aG (cv) (by simp)).mono ?_;rintro r H' ⟨rfl,rfl⟩;simp -implicitDefEqProofs -dsimp[h1,h2];refine bJ c1 ?_;rintro _ _ ⟨rfl,rfl⟩;simp -implicitDefEqProofs -dsimp[];refine bJ c2 ?_;rintro _ _ ⟨rfl,rfl⟩
    cases p2 with
    | false =>
     have hm:(match (p1,false) with
      | (some r,true)=>decide (r.length=0)
      | _=>false)=false:=by cases p1<;>rfl
     rw[hm];simp -implicitDefEqProofs -dsimp[]
    | true =>
     obtain⟨r,hr⟩:=hsome rfl;simp only at hr;subst hr;by_cases h3:r.length=0
     ·simp -implicitDefEqProofs -dsimp[encR,LNd,h3]
     ·simp -implicitDefEqProofs -dsimp[encR,LNd,h3]
 ·rw[if_neg h0];refine aC (aD tok Tryz.func76 rfl rfl ?_);refine wx ?_;simp -implicitDefEqProofs -dsimp[Tryz.f76,List.replicate,ah];refine(aG (cv) (by simp)).mono ?_;rintro r H' ⟨rfl,rfl⟩;simp -implicitDefEqProofs -dsimp[h0]
end
end Go.Proofs.YteijbpppalhihaaGreat
namespace Go.Proofs.YteijbpppalhihaaGreat
section
open Go Go.AM Go.RowKit
theorem infoCl64:(Tryz.prog.info? 2).map (fun i=>(i.zero,i.size,i.bytes))=some (some (.int .i64 0),1,8):=by kernel_rfl
theorem cloneE(A:Option Addr)(cap:Nat)(w:World):
  Calls Tryz.prog 190 #[.slice A 0 cap] w fun e w'=>∃v,e = .returned v∧w'.ownsRow w.heap.size 2 1 v 0 []∧Below w.heap.size w w':=by
 have hnil:=fun W A n c=>Lib.run_eql_slice_nil (P:=Tryz.prog) W 126 2 A n c 0 0 Tryz.underlying126
 cases A with
 | none =>
  go_enter Tryz.func190,Tryz.ntmps190
  go_wp2
  go_ret
  exact⟨_,rfl,World.ownsRow_nil _ _ _ _,Below.refl _ _⟩
 | some ad =>
  obtain⟨i0,hi,hz0,hz1,hz2⟩:=info_parts infoCl64;have hown:(w.alloc (.cells #[] 2)).ownsRow w.heap.size 2 1 (.slice (some ⟨w.heap.size,0,none⟩) 0 0) 0 []:=World.ownsRow_lit w #[] 0 (Nat.le_refl _) (by simp[maxLen]) (by simp)
  have hnews:∀j u,([]:List Value)[j]?=some u→(w.alloc (.cells #[] 2)).cell? (ad.add j)=some u:=by
   intro j u hu;simp at hu
  have hone:∀u∈([]:List Value),u.oneCell'=true:=by intro u hu;cases hu
  have h63:0+0≤maxLen:=by simp[maxLen]
  have hby:(0+0)*8≤140737488355328:=by omega
  have hlen:([]:List Value).length=0*1:=by simp
  have Hi:=Lib.hid (show Tryz.prog.info? 2=some i0∧i0.zero=some _∧i0.size=1∧i0.bytes=8 from⟨hi,hz0,hz1,hz2⟩);have Hw:=Lib.hid (And.intro hown (And.intro hnews (And.intro hone (And.intro h63 (And.intro hby hlen)))));clear hnews hone hown hi hz0 hz1 hz2 h63 hby hlen
  go_enter Tryz.func190,Tryz.ntmps190
  go_wp2_with (at_builtin;refine wpList_append_own _ rfl _ _ 126 rfl w.heap.size 2 i0 _ 1 8 Tryz.underlying126 Hi.out.1 Hi.out.2.1 Hi.out.2.2.1 Hi.out.2.2.2 rfl (by omega) (.slice (some ⟨w.heap.size,0,none⟩) 0 0) 0 [] rfl Hw.out.1 ad 0 cap [] rfl Hw.out.2.2.2.2.2 Hw.out.2.1 Hw.out.2.2.1 Hw.out.2.2.2.1 Hw.out.2.2.2.2.1 (by simp) ?_;intro v1 w1 ho hg hn;have Ho:=Lib.hid ho;have Hg:=Lib.hid hg;have Hn:=Lib.hid hn;clear ho hg hn)
  go_ret
  exact⟨v1,rfl,by have:=Ho.out;simpa using this,((Below.refl _ _).alloc (Nat.le_refl _) _).grown Hg.out (by simp) (by simp[Value.ownBlock])⟩
theorem conO_own{f:FuncId}{args:List V}{e:Nat}(hE:AM.Enters Tryz.prog f)(h:∀(F:Nat→Prop) (w:World) (vals:Array Value),vals.size=args.length→(∀(i:Nat) a u,args[i]?=some a→vals[i]?=some u→Rel (AM.base F w) a u)→
  Calls Tryz.prog f vals w fun e' w'=>∃v,e' = .returned v∧w'.ownsRow w.heap.size e 1 v 0 []∧Below w.heap.size w w'):gK Tryz.prog f args fun e' z ys=>e'=e∧z=1∧ys=[]:=by
 refine⟨hE,fun F w vals hZ hF hsz hrel=>(h F w vals hsz hrel).mono fun e' w' ⟨v,he,hown,hb⟩=>?_⟩;obtain⟨_,⟨hv,_⟩ | ⟨g,c,cur,hv,hg,hc,hn,hm,hs,_⟩⟩:=hown
 ·have hF':∀b,F b→b<w'.heap.size:=fun b hb'=>Nat.lt_of_lt_of_le (hF b hb') hb.size
  obtain⟨p1,_⟩:=nI (AM.base_good hF') (w:=w') 0 e 1 false rfl rfl rfl (Nat.le_refl _) (fun _ _=>rfl);refine⟨v,e,1,[],none,0,0,he,hv,fun h=>absurd rfl h,by simp,fun h=>absurd rfl h,?_,hb,rfl,rfl,rfl⟩;refine⟨hF',fun k hk=>absurd (hk.2 e 1 [] false (by have:=hk.1;simp at this;subst this;rfl)) (by simp),fun j k hj hk _=>by have:=hj.1;have:=hk.1;simp at *;omega,fun k bl hk=>?_⟩
  have hk0:k=0:=by have:=aE hk;simp at this;omega
  subst hk0;simp at hk;subst hk;exact⟨#[],fun h=>absurd rfl h,by simp,by simp,by simp[maxLen],(fun x hx=>by cases hx),(fun i x j c u hx=>by simp at hx)⟩
 ·have hF':∀b,F b→b<w'.heap.size:=fun b hb'=>Nat.lt_of_lt_of_le (hF b hb') hb.size
  refine⟨v,e,1,[],some ⟨g,0,none⟩,g,c,he,hv,fun _=>rfl,by simp,fun _=>hg,?_,hb,rfl,rfl,rfl⟩;refine⟨hF',fun k hk=>⟨(Array.getElem?_eq_some_iff.1 hc).1,fun hf=>by have:=hF g hf;omega⟩,fun j k hj hk _=>by have:=hj.1;have:=hk.1;simp at *;omega,fun k bl hk=>?_⟩
  have hk0:k=0:=by have:=aE hk;simp at this;omega
  subst hk0;simp at hk;subst hk;exact⟨cur,fun _=>hc,by simpa using hs,by simp,hm,(fun x hx=>by cases hx),(fun i x j c u hx=>by simp at hx)⟩
theorem clone64(xs:List Int)(f:Bool)(hl:xs.length≤1000000):gK Tryz.prog 190 [L1 f xs] fun e z ys=>e=2∧z=1∧ys=xs.map ac:=by
 cases xs with
 | nil =>
  refine conO_own ⟨Tryz.f190,Tryz.func190,rfl,rfl⟩ (fun F w vals hsz hrel=>?_)
  obtain⟨u0,rfl⟩:∃u0,vals = #[u0]:=by
   obtain⟨l⟩:=vals
   match l,hsz with
   | [a],_=>exact⟨a,rfl⟩
  have r0:=hrel 0 _ u0 rfl rfl;simp only[L1,List.map_nil]at r0;cases r0;exact cloneE _ _ _
 | cons x xs =>
  have hl':xs.length≤1000000:=by simp only[List.length_cons]at hl;omega
  refine dP (aD tok Tryz.func190 rfl rfl ?_);refine wx ?_;simp -implicitDefEqProofs -dsimp[Tryz.f190,List.replicate,L1,eZ,cap8 xs.length (by omega)];exact⟨0,2,1,ac x::xs.map ac,by simp,rfl,by simp,rfl,rfl,rfl⟩
end
end Go.Proofs.YteijbpppalhihaaGreat
namespace Go.Proofs.YteijbpppalhihaaGreat
section
open Go Go.AM
section
def scl(f g:Bool)(ws:List Int)(es:List (List Nat))(km n:Nat)(lf:Int):B:=.cells [L1 f ws,LLn g es,.buf km 0 n n,.int .i64 lf]
theorem scl_rb{N:Nat}(f g:Bool)(ws:List Int)(es:List (List Nat)){km:Nat}(n:Nat)(lf:Int)(h:km<N):rbB N (scl f g ws es km n lf):=by
 intro c hc;simp only[List.mem_cons,List.not_mem_nil,or_false]at hc
 rcases hc with rfl | rfl | rfl | rfl
 ·exact cG (by simp) rfl
 ·exact cG (by simp) rfl
 ·exact h
 ·trivial
section
variable {H:List B} {k0 km:Nat} {f g:Bool} {ws:List Int} {es:List (List Nat)} {n:Nat} {m:List Nat} {lf:Int}
theorem SAt.left(s:SAt H k0 km f g ws es n m lf)(lf':Int):SAt (H.set k0 (scl f g ws es km n lf')) k0 km f g ws es n m lf' :=
 ⟨by rw[List.getElem?_set_self (aE s.h0)];rfl,by rw[List.getElem?_set_ne (Ne.symm s.n0)];exact s.hm,fF s.rb (scl_rb f g ws es n lf' (aE s.hm)),s.lm,s.lw,s.n0⟩
theorem spend_h(s:SAt H k0 km f g ws es n m lf)(h1 : -9000000000000000000≤lf)(h2:lf≤9000000000000000000):
  az Tryz.prog 145 [.ptr k0 0] H fun r H'=>r = .bool (decide (0≤lf-1))∧H'=H.set k0 (scl f g ws es km n (lf-1)):=by
 have h0:=s.h0;have hk0:k0<H.length:=aE s.h0;have s2:=s.left (lf-1);have h02:=s2.h0;have hw:IntKind.i64.wrap (lf-1)=lf-1:=wrap64 (by omega) (by omega);have hst:H.set k0 (B.cells [L1 f ws,LLn g es,.buf km 0 n n,.int .i64 (lf-1)])=H.set k0 (scl f g ws es km n (lf-1)):=rfl;by_cases hq:0≤lf-1
 ·rw[decide_eq_true hq];refine aD tok Tryz.func145 rfl rfl ?_;refine wx ?_;simp -implicitDefEqProofs -dsimp[Tryz.f145,List.replicate,h0,hw,hst,h02,hq,scl];omega
 ·rw[decide_eq_false hq];refine aD tok Tryz.func145 rfl rfl ?_;refine wx ?_;simp -implicitDefEqProofs -dsimp[Tryz.f145,List.replicate,h0,hw,hst,h02,hq,scl];omega
theorem branch_h(s:SAt H k0 km f g ws es n m lf)(hb:HsB ws es):
  az Tryz.prog 148 [.ptr k0 0] H fun r H'=>r = .int .i64 (brS es m)∧H'=H:=by
 refine fW ?_ (by simp[rb,rb1]) s.rb;have h0:=s.h0;have hm:=s.hm;have hnl:=aw m;have hlm:=s.lm;have hlw:=s.lw;have hk0:k0<H.length:=aE s.h0;have hkm:km<H.length:=aE s.hm
 have hn2:n≤200:=by have:=hb.n;omega
 have he2:=hb.ne;obtain⟨E,hE⟩:∃E,E=brS es m:=⟨_,rfl⟩;rw[←hE];unfold brS at hE;rw[hlm]at hE
 have hcr:∀c:List Int,rbB (H.length+1) (B.buf 3 1 (inL c) false):=fun c=>(rbB_buf1 (iE _)).2 trivial
 have sN:∀c:List Int,SAt (H++[B.buf 3 1 (inL c) false]) k0 km f g ws es n m lf:=fun c=>s.app [B.buf 3 1 (inL c) false] (by intro bl h;rcases List.mem_cons.1 h with rfl | h;exact hcr c;cases h)
 have hrep:List.replicate n (V.int .i64 0)=inL (List.replicate n 0):=by simp[inL,ac]
 have h0r:=(sN (List.replicate n 0)).h0;refine aD tok Tryz.func148 rfl rfl ?_;refine wx ?_;simp -implicitDefEqProofs -dsimp[Tryz.f148,List.replicate,hrep,h0r,h0,hm,hnl,hlm,show(8:Int)*n≤281474976710656 by omega,show(n:Int)≤9223372036854775807 by omega,LLn,Ln];refine aK (W_loopM 64 [4,6,8,21,22,23,24,25,26,27,28,29,30,31,32,33,34,35,36,37,38,39,40,41,42,43,44,45,46,47,48,49,50,51,52,53,54,55,56,57,58,59,60,61,62,63] (by simp[mB]<;>rfl) (σ:=Nat×List Int×Int) (fun p=>p.1≤es.length∧brF m (es.drop p.1) p.2.1 p.2.2=E∧ldOk n (p.1*200) p.2.1∧-1≤p.2.2∧p.2.2<n) (fun p=>es.length-p.1) (fun p=>[(21,.int .i64 p.1),(4,.int .i64 p.2.2)]) (fun p=>H++[.buf 3 1 (inL p.2.1) false]) (0,List.replicate n 0,-1) ⟨by simp,by rw[List.drop_zero];exact hE.symm,⟨by simp,fun v _=>by rw[dy];simp⟩,by simp,by simp only;omega⟩ (by simp) (by simp) (by simp) ?_);rintro⟨i,c,b⟩ ⟨hi,hx,hc,hb1,hb2⟩ N Q hN hQ;simp only at hi hx hc hb1 hb2 hN;by_cases hbi:i<es.length
 ·rw[List.drop_eq_getElem_cons hbi,brF]at hx;have hmem:=List.getElem_mem hbi;obtain⟨e1,e2,e3⟩:=hb.ed es[i] hmem;have e4:=hb.ed.len es[i] hmem;obtain⟨e,he⟩:∃e,e=es[i]:=⟨_,rfl⟩;rw[←he]at hx e1 e2 e3 e4;have hei:=he.symm;have s1:=sN c;have ch:=has_h s1 e false 1 (by omega) (fun v hv=>by have:=e3 v hv;omega);simp only[Ln]at ch
  cases hh:fJ m 1 e with
  | true =>
   rw[hh]at ch;rw[if_pos hh]at hx;refine wx ?_;simp -implicitDefEqProofs -dsimp[hbi,hei,LLn,Ln];refine bJ ch ?_;rintro _ _ ⟨rfl,rfl⟩;simp -implicitDefEqProofs -dsimp[aM i (by omega),LLn,Ln];refine hN (i+1,c,b) _ _ ⟨by simp only;omega,hx,⟨hc.1,fun v hv=>by have:=hc.2 v hv;simp only;omega⟩,hb1,hb2⟩ (by simp only;omega) (by simp) ⟨[],by simp⟩ (by simp;omega) s1.rb
  | false =>
   rw[hh]at ch;rw[if_neg (by simp[hh])]at hx;refine wx ?_;simp -implicitDefEqProofs -dsimp[hbi,hei,LLn,Ln];refine bJ ch ?_;rintro _ _ ⟨rfl,rfl⟩;simp -implicitDefEqProofs -dsimp[LLn,Ln];refine aK (W_loopM 63 [4,8,30,31,32,33,34,35,36,37,38,39,40,41,42,43,44,45,46,47,48,49,50,51,52,53,54,55,56,57,58,59,60,61,62] (by simp[mB]<;>rfl) (σ:=Nat×List Int×Int) (fun q=>q.1≤e.length∧brF m (es.drop (i+1)) (brE m (e.drop q.1) q.2.1 q.2.2).1 (brE m (e.drop q.1) q.2.1 q.2.2).2=E∧ldOk n (i*200+q.1) q.2.1∧-1≤q.2.2∧q.2.2<n) (fun q=>e.length-q.1) (fun q=>[(30,.int .i64 q.1),(4,.int .i64 q.2.2)]) (fun q=>H++[.buf 3 1 (inL q.2.1) false]) (0,c,b) ⟨by simp,by rw[List.drop_zero];exact hx,by simpa using hc,hb1,hb2⟩ (by simp) (by simp) (by simp) ?_);rintro⟨k,c2,b2⟩ ⟨hk,hy,hc2,hb3,hb4⟩ N2 Q2 hN2 hQ2;simp only at hk hy hc2 hb3 hb4 hN2;have s2:=sN c2;by_cases hbk:k<e.length
   ·rw[List.drop_eq_getElem_cons hbk,brE]at hy;have hvn:=e3 e[k] (List.getElem_mem hbk);obtain⟨v,hv⟩:∃v,v=e[k]:=⟨_,rfl⟩;rw[←hv]at hy hvn;have hev:=hv.symm
    have hvn2:v<n:=by omega
    have g0:=s2.h0;have gm:=s2.hm
    have hat:=fun h=>bO (m:=m) (x:=v) h
    obtain⟨mc,hmc⟩:∃mc,mc=m.getD v 0:=⟨_,rfl⟩;rw[←hmc]at hat hy;by_cases h00:mc=0
    ·subst h00;rw[if_pos rfl]at hy
     have hgl:=fun h=>ef (m:=c2) (x:=v) h
     have hll:=ee c2;have hl1:=hc2.1;obtain⟨z1,z2⟩:=hc2.2 v hvn2;have hset:=hc2.set (A':=(i:Int)*200+((k+1:Nat):Int)) (by omega) hvn2 (a:=1) (by omega) (by omega);have hst:=lV c2 v (c2.getD v 0+1)
     have g9:(H++[B.buf 3 1 (inL c2) false])[H.length]?=some (B.buf 3 1 (inL c2) false):=by simp
     obtain⟨c3,hc3⟩:∃c3,c3=c2.set v (c2.getD v 0+1):=⟨_,rfl⟩
     have hcv:c3.getD v 0=c2.getD v 0+1:=by rw[hc3,aX _ (by omega)]
     rw[←hc3]at hy hset hst;obtain⟨z,hz⟩:∃z,z=c2.getD v 0:=⟨_,rfl⟩;rw[←hz]at hgl hy hst z1 z2 hcv;have hw2:IntKind.i64.wrap (z+1)=z+1:=wrap64 (by omega) (by omega)
     have hs9:(H++[B.buf 3 1 (inL c2) false]).set H.length (B.buf 3 1 (inL c3) false)=H++[B.buf 3 1 (inL c3) false]:=by simp[List.set_append_right]
     have s3:=sN c3
     have q9:(H++[B.buf 3 1 (inL c3) false])[H.length]?=some (B.buf 3 1 (inL c3) false):=by simp
     have hll3:=ee c3;have hl13:=hset.1
     have hgl3:=fun h=>ef (m:=c3) (x:=v) h
     rw[hcv]at hgl3;by_cases hbn:b2<0
     ·rw[if_pos (.inl hbn)]at hy;refine wx ?_;simp -implicitDefEqProofs -dsimp[hbk,hev,eN,g0,gm,hat,hnl,hlm,hvn2,g9,hgl,hll,hl1,hw2,hst,hs9,hbn,LLn,Ln];refine .inr ⟨aJ (by kernel_rfl),?_⟩;simp -implicitDefEqProofs -dsimp[aM k (by omega),LLn,Ln];refine hN2 (k+1,c3,v) _ _ ⟨by simp only;omega,hy,hset,by simp only;omega,by simp only;omega⟩ (by simp only;omega) (by simp) ⟨[],by simp⟩ (by simp;omega) s3.rb
     ·obtain⟨q,rfl⟩:∃q:Nat,b2=q:=⟨b2.toNat,by omega⟩
      have hqn:q<n:=by omega
      rw[Int.toNat_natCast]at hy
      have hgq:=fun h=>ef (m:=c3) (x:=q) h
      obtain⟨y,hy2⟩:∃y,y=c3.getD q 0:=⟨_,rfl⟩;rw[←hy2]at hgq hy;by_cases hlt:y<z+1
      ·rw[if_pos (.inr hlt)]at hy;refine wx ?_;simp -implicitDefEqProofs -dsimp[hbk,hev,eN,g0,gm,hat,hnl,hlm,hvn2,g9,hgl,hll,hl1,hw2,hst,hs9,hbn,q9,hgl3,hll3,hl13,hqn,hgq,hlt,LLn,Ln];refine .inr ⟨aJ (by kernel_rfl),?_⟩;simp -implicitDefEqProofs -dsimp[aM k (by omega),LLn,Ln];refine hN2 (k+1,c3,v) _ _ ⟨by simp only;omega,hy,hset,by simp only;omega,by simp only;omega⟩ (by simp only;omega) (by simp) ⟨[],by simp⟩ (by simp;omega) s3.rb
      ·rw[if_neg (by rintro(h | h)<;>omega)]at hy;refine wx ?_;simp -implicitDefEqProofs -dsimp[hbk,hev,eN,g0,gm,hat,hnl,hlm,hvn2,g9,hgl,hll,hl1,hw2,hst,hs9,hbn,q9,hgl3,hll3,hl13,hqn,hgq,hlt,LLn,Ln];refine .inr ⟨aJ (by kernel_rfl),?_⟩;simp -implicitDefEqProofs -dsimp[aM k (by omega),LLn,Ln];refine hN2 (k+1,c3,q) _ _ ⟨by simp only;omega,hy,hset,by simp only;omega,by simp only;omega⟩ (by simp only;omega) (by simp) ⟨[],by simp⟩ (by simp;omega) s3.rb
    ·rw[if_neg h00]at hy;refine wx ?_;simp -implicitDefEqProofs -dsimp[hbk,hev,eN,g0,gm,hat,hnl,hlm,hvn2,h00,show ¬((mc:Int)=0) by omega,LLn,Ln];simp -implicitDefEqProofs -dsimp[aM k (by omega),LLn,Ln];refine hN2 (k+1,c2,b2) _ _ ⟨by simp only;omega,hy,⟨hc2.1,fun v hv=>by have:=hc2.2 v hv;simp only;omega⟩,hb3,hb4⟩ (by simp only;omega) (by simp) ⟨[],by simp⟩ (by simp;omega) s2.rb
   ·rw[show e.drop k=[] from List.drop_of_length_le (by omega),brE]at hy;refine wx ?_;simp -implicitDefEqProofs -dsimp[hbk,LLn,Ln];refine hQ2 _ _ _ ?_;simp -implicitDefEqProofs -dsimp[aM i (by omega),LLn,Ln];refine hN (i+1,c2,b2) _ _ ⟨by simp only;omega,hy,⟨hc2.1,fun v hv=>by have:=hc2.2 v hv;simp only;omega⟩,hb3,hb4⟩ (by simp only;omega) (by simp) ⟨[],by simp⟩ (by simp;omega) s2.rb
 ·rw[List.drop_of_length_le (by omega),brF]at hx;refine wx ?_;simp -implicitDefEqProofs -dsimp[hbi,LLn,Ln];refine hQ _ _ _ ?_;simp -implicitDefEqProofs -dsimp[LLn,Ln];exact hx
end
end
end
end Go.Proofs.YteijbpppalhihaaGreat
