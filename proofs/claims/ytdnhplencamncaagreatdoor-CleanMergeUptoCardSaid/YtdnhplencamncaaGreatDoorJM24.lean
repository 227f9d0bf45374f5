/- JM24: own texts of this seat, joined and shortened by pack4.py: SO1, W3, Pl3, Pl4, Mn, W6c. -/
import Derived.Test.YtdnhplencamncaaGreatDoorJM9
import Derived.Deep.LoopGhost
import Derived.Shelf.SlicesQ.Load
import Derived.Shelf.SlSortCmp.Kit1
import Derived.Sort.Grow
set_option linter.unusedVariables false
set_option linter.unusedSimpArgs false
set_option maxRecDepth 100000
set_option maxHeartbeats 64000000
open List renaming replicate→oE,drop_eq_getElem_cons→oK,drop_of_length_le→oV,drop_zero→pC
open Nat renaming le_refl→oJ,lt_of_lt_of_le→om,le_add_right→rd
namespace Go.Proofs.YtdnhplencamncaaGreatDoor
section
open Go Go.AM Go.RowKit Go.Lib Go.Sort
theorem nanK64(x:Int)(W:World):Calls Tryz.prog 111 #[.int .i64 x] W fun e w'=>e = .returned (.bool false)∧w'=W:=by
 go_enter Tryz.func111,Tryz.ntmps111
 go_wp2
 go_ret
 exact⟨rfl,rfl⟩
theorem cmpK64(x y:Int)(W:World):Calls Tryz.prog 55 #[.int .i64 x,.int .i64 y] W fun e w'=>e = .returned (.int .i64 (bR x y))∧w'=W:=by
 have h1:=nanK64 x W;have h2:=nanK64 y W;by_cases c1:x<y
 ·rw[show bR x y = -1 by unfold bR;rw[if_pos c1]]
  go_enter Tryz.func55,Tryz.ntmps55
  go_wp2_with (go_at_call 111;first | (refine h1.mono ?_;rintro e w' ⟨rfl,rfl⟩) | (refine h2.mono ?_;rintro e w' ⟨rfl,rfl⟩))
  go_ret
  exact⟨rfl,rfl⟩
 ·by_cases c2:y<x
  ·rw[show bR x y=1 by unfold bR;rw[if_neg c1,if_pos c2]];have c3:x > y:=c2
   go_enter Tryz.func55,Tryz.ntmps55
   go_wp2_with (go_at_call 111;first | (refine h1.mono ?_;rintro e w' ⟨rfl,rfl⟩) | (refine h2.mono ?_;rintro e w' ⟨rfl,rfl⟩))
   go_ret
   exact⟨rfl,rfl⟩
  ·rw[show bR x y=0 by unfold bR;rw[if_neg c1,if_neg c2]];have c3:¬x > y:=c2
   go_enter Tryz.func55,Tryz.ntmps55
   go_wp2_with (go_at_call 111;first | (refine h1.mono ?_;rintro e w' ⟨rfl,rfl⟩) | (refine h2.mono ?_;rintro e w' ⟨rfl,rfl⟩))
   go_ret
   exact⟨rfl,rfl⟩
def AtI(w:World)(A:Option Addr)(l:List Int):Prop:=∀(i:Nat) (h:i<l.length),∃b o,A=some ⟨b,o,none⟩∧b<w.heap.size∧w.cell? ⟨b,o+i,none⟩=some (.int .i64 l[i])
theorem AtI.grown{w:World}{A:Option Addr}{l:List Int}(h:AtI w A l)(q:Nat)(os:Array Obj):AtI (grow (w.drewN q) os) A l:=fun i hi=>by
 obtain⟨b,o,h1,h2,h3⟩:=h i hi;refine⟨b,o,h1,?_,?_⟩
 ·rw[size_grow];exact om h2 (rd _ _)
 ·rw[cell?_grow _ _ _ (by exact h2)];exact h3
def GW(W w:World):Prop:=∃q os,w=grow (W.drewN q) os
theorem GW.refl(W:World):GW W W:=⟨0,#[],by rw[grow_empty];rfl⟩
theorem GW.at{W w:World}(h:GW W w){A:Option Addr}{l:List Int}(g:AtI W A l):AtI w A l:=by
 obtain⟨q,os,rfl⟩:=h;exact g.grown q os
theorem compareIK(a b:List Int)(A B:Option Addr)(ca cb:Nat)(W:World)(hA:AtI W A a)(hB:AtI W B b)(ha:a.length≤1000000)(hb:b.length≤1000000):
  Calls Tryz.prog 48 #[.slice A a.length ca,.slice B b.length cb] W fun e w'=>e = .returned (.int .i64 (cV a b))∧∃q os',w'=grow (W.drewN q) os':=by
 have hc:=fun x y W=>cmpK64 x y W
 obtain⟨r,hr⟩:∃r,r=cV a b:=⟨_,rfl⟩;rw[←hr]
 go_enter Tryz.func48,Tryz.ntmps48
 go_wp2
 go_loopg [11] a.length (fun g s11 wr=>∃(i:Nat),s11 = .int .i64 i∧i≤a.length∧i≤b.length∧a.length-i≤g∧Aside (GW W wr)∧cV (a.drop i) (b.drop i)=r)
 case atStart=>exact⟨0,rfl,by omega,by omega,by omega,GW.refl W,by rw[pC,pC,hr]⟩
 clear hr
 case round =>
  obtain⟨i,rfl,hi,hi2,hg,hwr,hx⟩:=hrel;by_cases h1:i<a.length
  ·obtain⟨ba,oa,hAe,hba,ca0⟩:=(hwr.out.at hA) i h1;subst hAe;by_cases h2:i<b.length
   ·obtain⟨bb,ob,hBe,hbb,cb0⟩:=(hwr.out.at hB) i h2;subst hBe;rw[oK h1,oK h2,cV]at hx;generalize a[i]=x at ca0 hx;generalize b[i]=y at cb0 hx;obtain⟨z,hz⟩:∃z,z=bR x y:=⟨_,rfl⟩
    have hcc:=fun W=>hc x y W
    rw[←hz]at hx hcc;clear hz hc hA hB;by_cases hq:z=0
    ·rw[if_pos hq]at hx;subst hq
     go_wp2_with (go_at_call 55;refine(hcc _).mono ?_;rintro e w' ⟨rfl,rfl⟩)
     go_roundg (a.length-(i+1))
     case measure=>omega
     case rel=>exact⟨i+1,by go_num,by omega,by omega,oJ _,hwr.out,hx⟩
    ·rw[if_neg hq]at hx
     go_wp2_with (go_at_call 55;refine(hcc _).mono ?_;rintro e w' ⟨rfl,rfl⟩)
     go_ret
     exact⟨by first | rfl | (rw[hx];rfl),hwr.out⟩
   ·rw[oK h1,oV (show b.length≤i by omega),cV]at hx
    have h2':¬(i:Int)<b.length:=by omega
    go_wp2_with fail
    go_ret
    exact⟨by first | rfl | (rw[hx];rfl),hwr.out⟩
  ·rw[oV (show a.length≤i by omega)]at hx;by_cases h2:a.length<b.length
   ·rw[oK (show i<b.length by omega),cV]at hx
    go_wp2_with fail
    go_ret
    exact⟨by rw[hx];rfl,hwr.out⟩
   ·rw[oV (show b.length≤i by omega),cV]at hx
    go_wp2_with fail
    go_ret
    exact⟨by rw[hx];rfl,hwr.out⟩
end
end Go.Proofs.YtdnhplencamncaaGreatDoor
section
namespace Go.Proofs.YtdnhplencamncaaGreatDoor
open Go Go.AM
end Go.Proofs.YtdnhplencamncaaGreatDoor
end
section
namespace Go.Proofs.YtdnhplencamncaaGreatDoor
open Go Go.AM
end Go.Proofs.YtdnhplencamncaaGreatDoor
end
namespace Go.Proofs.YtdnhplencamncaaGreatDoor
section
open Go Go.AM
theorem lex_irr:∀a:List Int,cR a a=false
 | []=>rfl
 | x::xs=>by simp only[cR,if_true];exact lex_irr xs
theorem lex_tri:∀a b:List Int,a≠b→cR a b=false→cR b a=true
 | [],[],h,_=>absurd rfl h
 | [],_::_,_,h=>by simp[cR]at h
 | _::_,[],_,_=>rfl
 | x::xs,y::ys,h,hl=>by
  simp only[cR]at hl ⊢;by_cases hxy:x=y
  ·subst hxy;rw[if_pos rfl]at hl ⊢;exact lex_tri xs ys (fun e=>h (by rw[e])) hl
  ·rw[if_neg hxy]at hl;rw[if_neg (fun e=>hxy e.symm)];simp only[decide_eq_false_iff_not]at hl;simp only[decide_eq_true_eq];omega
theorem lex_trans:∀a b c:List Int,cR a b=true→cR b c=true→cR a c=true
 | [],[],_,h,_=>by simp[cR]at h
 | [],_::_,[],_,h=>by simp[cR]at h
 | [],_::_,_::_,_,_=>rfl
 | _::_,[],_,h,_=>by simp[cR]at h
 | _::_,_::_,[],_,h=>by simp[cR]at h
 | x::xs,y::ys,z::zs,h1,h2=>by
  simp only[cR]at h1 h2 ⊢;by_cases hxy:x=y
  ·subst hxy;rw[if_pos rfl]at h1;by_cases hxz:x=z
   ·subst hxz;rw[if_pos rfl]at h2 ⊢;exact lex_trans xs ys zs h1 h2
   ·rw[if_neg hxz]at h2 ⊢;exact h2
  ·rw[if_neg hxy]at h1;simp only[decide_eq_true_eq]at h1;by_cases hyz:y=z
   ·subst hyz;rw[if_neg hxy];simpa using h1
   ·rw[if_neg hyz]at h2;simp only[decide_eq_true_eq]at h2;rw[if_neg (by omega)];simp only[decide_eq_true_eq];omega
structure Hyp (vs:List Int) (es:List (List Int)):Prop where
 va:vs.Pairwise (· < ·)
 ne:∀e∈es,e≠[]
 ea:∀e∈es,e.Pairwise (· < ·)
 sub:∀e∈es,∀x∈e,x∈vs
 lex:es.Pairwise fun a b=>cR a b=true
 min:es.Pairwise fun a b=>¬(∀x∈a,x∈b)∧¬(∀x∈b,x∈a)
structure LexSet (es:List (List Int)) (p:List Int→Prop):Prop where
 ord:es.Pairwise fun a b=>cR a b=true
 mem:∀e,e∈es↔p e
theorem iP(a b:List Int):cV a b<0↔cR a b=true:=by
 have:=cmpL_lex a b
 cases h:cR a b with
 | true=>rw[h]at this;have:=of_decide_eq_false this;simp;omega
 | false=>rw[h]at this;have:=of_decide_eq_true this;simp;omega
theorem jy(a:List Int):¬cV a a<0:=by rw[iP,lex_irr];simp
theorem gI(a b c:List Int):cV a b<0→cV b c<0→cV a c<0:=by rw[iP,iP,iP];exact lex_trans a b c
theorem cmpL_tri(a b:List Int):cV a b<0∨a=b∨cV b a<0:=by
 rw[iP,iP];by_cases he:a=b
 ·exact .inr (.inl he)
 ·cases h:cR a b with
  | true=>exact .inl rfl
  | false=>exact .inr (.inr (lex_tri a b he h))
theorem lN{a b c:List Int}(h:¬cV a b<0)(g:¬cV b c<0):¬cV a c<0:=by
 intro hac
 rcases cmpL_tri a b with h1 | h1 | h1
 ·exact h h1
 ·subst h1;exact g hac
 ·exact g (gI _ _ _ h1 hac)
theorem index64(xs:List Int)(x:Int)(f:Bool)(hl:xs.length≤1000000):aJ Tryz.prog 191 [L1 f xs,.int .i64 x] fun r=>r = .int .i64 (ixI xs x 0):=by
 refine sPx Tryz.func191 rfl rfl ?_;simp -dsimp[Tryz.f191,oE,L1];refine aI (W_loopG [4,5,8,9,10,11,12,13,14,15,16,17,18] (σ:=Nat) (fun i=>ixI xs x i=ixI xs x 0) (fun i=>xs.length-i) (fun i=>[(8,.int .i64 i)]) (fun _=>[]) 0 rfl (by simp) rfl (by simp) ?_);intro i hx;by_cases hb:i<xs.length
 ·rw[ixI,dif_pos hb]at hx;by_cases hq:x=xs[i]
  ·rw[if_pos hq]at hx;refine wx ?_;simp -dsimp[L1,aQ,hb,hq];rw[←hq];exact hx
  ·rw[if_neg hq]at hx;refine wx ?_;simp -dsimp[L1,aQ,hb,hq,aP i (by omega)];refine aS ?_;refine⟨i+1,hx,by omega,?_,⟨[],rfl⟩,?_,?_⟩<;>simp[L1,aQ]
 ·rw[ixI,dif_neg hb]at hx;refine wx ?_;simp -dsimp[L1,hb];exact hx
theorem contains64(xs:List Int)(x:Int)(f:Bool)(hl:xs.length≤1000000):aJ Tryz.prog 116 [L1 f xs,.int .i64 x] fun r=>r = .bool (cP xs x):=by
 have h0:=ixI_mem xs x 0;rw[pC]at h0;refine sPx Tryz.func116 rfl rfl ?_;simp -dsimp[Tryz.f116,oE];refine cPx (index64 xs x f hl) (by simp) ?_;simp -dsimp[];rw[←h0]
end
end Go.Proofs.YtdnhplencamncaaGreatDoor
