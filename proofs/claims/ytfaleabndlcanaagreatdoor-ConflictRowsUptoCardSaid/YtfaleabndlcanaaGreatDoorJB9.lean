/- JB9: own texts of this seat, joined by pack2.py: Mn, T9, T10, G1, Vp, Vf, SO1, SO2, LayI, SO3, Vb, Rc, Opq, Opr, G2, Cut, G3, G4, OD, Rl, OV, OW, ClR, DV, SO4, DW. -/
import Derived.Test.YtfaleabndlcanaaGreatDoorJB8
import Derived.Deep.LoopGhost
import Derived.Shelf.SlicesQ.Load
import Derived.Shelf.SlSortCmp.Kit1
import Derived.Sort.Grow
import Derived.Shelf.SlSortCmp.NoneTotal
import Derived.WalkSpells
import Derived.WalkLawsBesides
import Derived.Lib.Hide
import Derived.Maps.AppendAt
set_option linter.unusedVariables false
set_option linter.unusedSimpArgs false
set_option maxRecDepth 100000
set_option maxHeartbeats 64000000
namespace Go.Proofs.YtfaleabndlcanaaGreatDoor
section
open Go Go.AM
def MinM (l:List (List Int)) (e:List Int):Prop:=e∈l∧∀d∈l,(∀x∈d,x∈e)→e.length≤d.length
structure LexSet (es:List (List Int)) (p:List Int→Prop):Prop where
 ord:es.Pairwise fun a b=>lexLt a b=true
 mem:∀e,e∈es↔p e
theorem lex_ext:∀(a b:List (List Int)),(a.Pairwise fun x y=>lexLt x y=true)→(b.Pairwise fun x y=>lexLt x y=true)→(∀e,e∈a↔e∈b)→a=b
 | [],[],_,_,_=>rfl
 | [],y::_,_,_,h=>absurd ((h y).2 (List.mem_cons_self ..)) (by simp)
 | x::_,[],_,_,h=>absurd ((h x).1 (List.mem_cons_self ..)) (by simp)
 | x::xs,y::ys,hx,hy,h=>by
  rw [List.pairwise_cons] at hx hy
  have hxy:x=y:=by
   rcases List.mem_cons.1 ((h x).1 (List.mem_cons_self ..)) with e | e
   ·exact e
   ·rcases List.mem_cons.1 ((h y).2 (List.mem_cons_self ..)) with e2 | e2
    ·exact e2.symm
    ·have h1:=hy.1 x e
     have h2:=hx.1 y e2
     have h3:=lex_trans _ _ _ h1 h2
     rw [lex_irr] at h3
     cases h3
  subst hxy
  congr 1
  refine lex_ext xs ys hx.2 hy.2 (fun e=>?_)
  constructor
  ·intro he
   rcases List.mem_cons.1 ((h e).1 (List.mem_cons_of_mem _ he)) with e2 | e2
   ·subst e2
    have:=hx.1 _ he
    rw [lex_irr] at this
    cases this
   ·exact e2
  ·intro he
   rcases List.mem_cons.1 ((h e).2 (List.mem_cons_of_mem _ he)) with e2 | e2
   ·subst e2
    have:=hy.1 _ he
    rw [lex_irr] at this
    cases this
   ·exact e2
theorem LexSet.eq {a b:List (List Int)} {p q:List Int→Prop} (ha:LexSet a p) (hb:LexSet b q) (h:∀e,p e↔q e):a=b :=
 lex_ext a b ha.ord hb.ord (fun e=>by rw [ha.mem,hb.mem,h])
theorem first_nat {p:Nat→Prop} : ∀n,p n→∃j,p j∧∀k,k<j→¬p k:=by
 intro n
 induction n using Nat.strongRecOn with
 | ind n ih =>
  intro h
  by_cases hk:∃k,k<n∧p k
  ·obtain ⟨k,h1,h2⟩:=hk
   exact ih k h1 h2
  ·exact ⟨n,h,fun k hk' hp=>hk ⟨k,hk',hp⟩⟩
theorem insE_in {acc:List (List Int)} {e x:List Int} (h:x=e∨x∈acc):x∈insE acc e:=by
 unfold insE insAt
 rcases h with rfl | h
 ·simp
 ·have h2:=List.take_append_drop (insPos acc e acc.length) acc
  rw [←h2] at h
  rcases List.mem_append.1 h with h | h
  ·exact List.mem_append_left _ h
  ·exact List.mem_append_right _ (List.mem_cons_of_mem _ h)
theorem edges_all {l:List (List Int)} : ∀{i:Nat},i≤l.length→∀j,j<i→keepE l j=true→eAt l j∈edgesTo l i
 | 0,_,j,h,_=>by omega
 | i+1,hi,j,hj,hk=>by
  simp only [edgesTo]
  by_cases hji:j=i
  ·subst hji
   rw [if_pos hk]
   exact insE_in (.inl rfl)
  ·have:=edges_all (l:=l) (i:=i) (by omega) j (by omega) hk
   split
   ·exact insE_in (.inr this)
   ·exact this
theorem keepTo_of {l:List (List Int)} {i:Nat} : ∀{n:Nat},(∀k,k<n→dropE l i k=false)→keepTo l i n=true
 | 0,_=>rfl
 | n+1,h=>by
  rw [keepTo,keepTo_of (n:=n) (fun k hk=>h k (by omega)),h n (by omega)]
  rfl
theorem asc_sublist:∀(b a:List Int),a.Pairwise (· < ·)→b.Pairwise (· < ·)→(∀x∈a,x∈b)→a.Sublist b
 | [],a,_,_,hs=>by
  cases a with
  | nil=>exact List.Sublist.slnil
  | cons x a=>exact absurd (hs x (List.mem_cons_self ..)) (by simp)
 | y::b,a,ha,hb,hs=>by
  cases a with
  | nil=>exact List.nil_sublist _
  | cons x a =>
   rw [List.pairwise_cons] at ha hb
   rcases List.mem_cons.1 (hs x (List.mem_cons_self ..)) with e | e
   ·subst e
    exact (asc_sublist b a ha.2 hb.2 (fun z hz=>by
     rcases List.mem_cons.1 (hs z (List.mem_cons_of_mem _ hz)) with e | e
     ·have:=ha.1 z hz; omega
     ·exact e)).cons_cons x
   ·have hyx:=hb.1 x e
    exact (asc_sublist b (x::a) (List.pairwise_cons.2 ha) hb.2 (fun z hz=>by
     rcases List.mem_cons.1 (hs z hz) with e2 | e2
     ·rcases List.mem_cons.1 hz with e3 | e3
      ·omega
      ·have:=ha.1 z e3; omega
     ·exact e2)).cons y
theorem asc_sub_eq {a b:List Int} (ha:a.Pairwise (· < ·)) (hb:b.Pairwise (· < ·)) (hs:∀x∈a,x∈b) (hl:b.length≤a.length):a=b:=by
 have hna:a.Nodup:=ha.imp fun {x y} h=>by omega
 have hnb:b.Nodup:=hb.imp fun {x y} h=>by omega
 exact (asc_sublist b a ha hb hs).eq_of_length_le hl
theorem edges_min {l:List (List Int)} (hl:∀e∈l,e.Pairwise (· < ·)):LexSet (edgesF l) (MinM l):=by
 obtain ⟨h1,h2⟩:=edges_inv (l:=l) (i:=l.length) (Nat.le_refl _)
 have hm:∀j,j<l.length→eAt l j∈l:=fun j hj=>by rw [getD_at hj]; exact List.getElem_mem hj
 refine ⟨h1,fun e=>⟨fun he=>?_,fun he=>?_⟩⟩
 ·obtain ⟨j,hj,hk,rfl⟩:=h2 e he
  refine ⟨hm j hj,fun d hd hs=>?_⟩
  obtain ⟨k,hk2,rfl⟩:=List.mem_iff_getElem.1 hd
  have:=keepTo_at hk k hk2
  unfold dropE at this
  rw [getD_at hk2,within_iff.2 hs,Bool.true_and,Bool.or_eq_false_iff] at this
  have:=of_decide_eq_false this.1
  omega
 ·obtain ⟨hel,hmin⟩:=he
  obtain ⟨j0,hj0,rfl⟩:=List.mem_iff_getElem.1 hel
  obtain ⟨j,⟨hj,hje⟩,hfirst⟩:=first_nat (p:=fun j=>j<l.length∧eAt l j=l[j0]) j0 ⟨hj0,getD_at hj0⟩
  rw [←hje]
  refine edges_all (Nat.le_refl _) j hj (keepTo_of fun k hk=>?_)
  unfold dropE
  rw [Bool.and_eq_false_iff]
  cases hw:within (eAt l k) (eAt l j) with
  | false=>exact .inl rfl
  | true =>
   right
   have hs:=within_iff.1 hw
   rw [hje] at hs ⊢
   have hle:=hmin _ (hm k hk) hs
   rw [Bool.or_eq_false_iff,decide_eq_false_iff_not,decide_eq_false_iff_not]
   refine ⟨by omega,fun hkj=>hfirst k hkj ⟨hk,?_⟩⟩
   exact asc_sub_eq (hl _ (hm k hk)) (hl _ hel) hs hle
def smK (all:List (List Int)) (l:List Int):Bool:=(List.range l.length).any fun i=>decide (1<l.length)&&all.contains [l.getD i 0]||decide (2<l.length)&&all.contains (l.eraseIdx i)
theorem contL {all:List (List Int)} {e:List Int} : all.contains e=true↔e∈all:=by simp
theorem erase_sub (l:List Int) (i:Nat):∀x∈l.eraseIdx i,x∈l:=fun x h=>List.mem_of_mem_eraseIdx h
theorem miss_erase:∀(d l:List Int),l.Pairwise (· < ·)→d.Pairwise (· < ·)→(∀x∈d,x∈l)→d.length+1=l.length→∃i,i<l.length∧d=l.eraseIdx i:=fun d l hl hd hs hlen=>by
 have hnl:l.Nodup:=hl.imp fun {x y} h=>by omega
 have hex:∃i,i<l.length∧∀x∈d,x∈l.eraseIdx i:=by
  refine Classical.byContradiction fun hno=>?_
  have hall:∀x∈l,x∈d:=fun x hx=>by
   obtain ⟨i,hi,rfl⟩:=List.mem_iff_getElem.1 hx
   refine Classical.byContradiction fun hx2=>hno ⟨i,hi,fun y hy=>?_⟩
   rw [List.mem_eraseIdx_iff_getElem]
   obtain ⟨j,hj,rfl⟩:=List.mem_iff_getElem.1 (hs y hy)
   exact ⟨j,hj,fun e=>hx2 (by subst e; exact hy),rfl⟩
  have:=hnl.length_le_of_subset hall
  omega
 obtain ⟨i,hi,h⟩:=hex
 have hle:(l.eraseIdx i).length+1=l.length:=by rw [List.length_eraseIdx_of_lt hi]; omega
 exact ⟨i,hi,asc_sub_eq hd (hl.sublist (List.eraseIdx_sublist ..)) h (by omega)⟩
theorem sm_min {all:List (List Int)} (hA:∀d∈all,d.Pairwise (· < ·)∧d≠[]∧d.length≤3) (l:List Int):(l∈all∧smK all l=false)↔MinM all l:=by
 constructor
 ·rintro ⟨hl,hsm⟩
  refine ⟨hl,fun d hd hs=>?_⟩
  refine Classical.byContradiction fun hlt=>?_
  obtain ⟨a1,a2,a3⟩:=hA l hl
  obtain ⟨d1,d2,d3⟩:=hA d hd
  have hd0:0<d.length:=List.length_pos_iff.2 d2
  have hsm2:smK all l=true:=by
   unfold smK
   rw [List.any_eq_true]
   by_cases hd1:d.length=1
   ·obtain ⟨x,rfl⟩:=List.length_eq_one_iff.1 hd1
    obtain ⟨i,hi,hx⟩:=List.mem_iff_getElem.1 (hs x (by simp))
    refine ⟨i,List.mem_range.2 hi,?_⟩
    rw [Bool.or_eq_true]
    left
    rw [show l.getD i 0=l[i] by simp [List.getD,hi],hx,decide_eq_true (by omega),Bool.true_and]
    exact contL.2 hd
   ·obtain ⟨i,hi,hde⟩:=miss_erase d l a1 d1 hs (by omega)
    refine ⟨i,List.mem_range.2 hi,?_⟩
    rw [Bool.or_eq_true]
    right
    rw [←hde,decide_eq_true (by omega),Bool.true_and]
    exact contL.2 hd
  rw [hsm2] at hsm
  cases hsm
 ·rintro ⟨hl,hmin⟩
  refine ⟨hl,?_⟩
  cases hsm:smK all l with
  | false=>rfl
  | true =>
   exfalso
   unfold smK at hsm
   rw [List.any_eq_true] at hsm
   obtain ⟨i,hi,h⟩:=hsm
   rw [List.mem_range] at hi
   rw [Bool.or_eq_true] at h
   rcases h with h | h
   ·rw [Bool.and_eq_true,show l.getD i 0=l[i] by simp [List.getD,hi]] at h
    have:=hmin _ (contL.1 h.2) (fun x hx=>by rw [List.mem_singleton] at hx; subst hx; exact List.getElem_mem hi)
    have:=of_decide_eq_true h.1
    simp at *
    omega
   ·rw [Bool.and_eq_true] at h
    have:=hmin _ (contL.1 h.2) (erase_sub l i)
    rw [List.length_eraseIdx_of_lt hi] at this
    omega
def cpL (l:List (List Int)):Nat→List (List Int)
 | 0=>[]
 | 1=>[eAt l 0]
 | p+2=>if eAt l p=eAt l (p+1) then cpL l (p+1) else cpL l (p+1)++[eAt l (p+1)]
def compL (l:List (List Int)):List (List Int):=if l=[] then [] else cpL l l.length
theorem take_snocL {l:List (List Int)} {k:Nat} (h:k<l.length):l.take (k+1)=l.take k++[eAt l k]:=by rw [List.take_succ_eq_append_getElem h,getD_at h]
theorem cpL_ok {l:List (List Int)} (hs:l.Pairwise fun x y=>lexLt y x=false):∀p,1≤p→p≤l.length→(∃L,cpL l p=L++[eAt l (p - 1)])∧((cpL l p).Pairwise fun x y=>lexLt x y=true)∧∀x,x∈cpL l p↔x∈l.take p
 | 0,h,_=>by omega
 | 1,_,hl=>by
  refine ⟨⟨[],rfl⟩,by simp [cpL],fun x=>?_⟩
  rw [take_snocL (k:=0) (by omega)]
  simp [cpL]
 | p+2,_,hl=>by
  obtain ⟨⟨L,h1⟩,h2,h3⟩:=cpL_ok hs (p+1) (by omega) (by omega)
  rw [Nat.add_sub_cancel] at h1
  rw [cpL,show p+2 - 1=p+1 by omega]
  have hmem:∀x,x∈l.take (p+2)↔x∈l.take (p+1)∨x=eAt l (p+1):=fun x=>by
   rw [take_snocL (k:=p+1) (by omega)]; simp
  split
  ·rename_i he
   refine ⟨⟨L,by rw [h1,he]⟩,h2,fun x=>?_⟩
   rw [hmem,h3]
   constructor
   ·exact .inl
   ·rintro (h | h)
    ·exact h
    ·rw [h,←he,←h3,h1]; simp
  ·rename_i he
   refine ⟨⟨_,rfl⟩,?_,fun x=>?_⟩
   ·have hlt:lexLt (eAt l p) (eAt l (p+1))=true:=by
     have:=List.pairwise_iff_getElem.1 hs p (p+1) (by omega) (by omega) (by omega)
     rw [←getD_at (show p<l.length by omega),←getD_at (show p+1<l.length by omega)] at this
     exact lex_tri _ _ (fun e=>he e.symm) this
    refine List.pairwise_append.2 ⟨h2,by simp,fun a ha b hb=>?_⟩
    rw [List.mem_singleton] at hb
    subst hb
    rw [h1] at ha h2
    rcases List.mem_append.1 ha with h | h
    ·exact lex_trans _ _ _ ((List.pairwise_append.1 h2).2.2 a h _ (by simp)) hlt
    ·rw [List.mem_singleton] at h; subst h; exact hlt
   ·rw [hmem,List.mem_append,h3,List.mem_singleton]
theorem compL_ok {l:List (List Int)} (hs:l.Pairwise fun x y=>lexLt y x=false):LexSet (compL l) (·∈l):=by
 unfold compL
 by_cases h:l=[]
 ·subst h; exact ⟨by simp,by simp⟩
 ·rw [if_neg h]
  obtain ⟨_,h1,h2⟩:=cpL_ok hs l.length (List.length_pos_iff.2 h) (Nat.le_refl _)
  rw [List.take_length] at h2
  exact ⟨h1,h2⟩
theorem cmpL_lt (a b:List Int):cmpL a b<0↔lexLt a b=true:=by
 have:=cmpL_lex a b
 cases h:lexLt a b with
 | true=>rw [h] at this; have:=of_decide_eq_false this; simp; omega
 | false=>rw [h] at this; have:=of_decide_eq_true this; simp; omega
theorem cmpL_irr (a:List Int):¬cmpL a a<0:=by rw [cmpL_lt,lex_irr]; simp
theorem cmpL_trans (a b c:List Int):cmpL a b<0→cmpL b c<0→cmpL a c<0:=by rw [cmpL_lt,cmpL_lt,cmpL_lt]; exact lex_trans a b c
theorem cmpL_tri (a b:List Int):cmpL a b<0∨a=b∨cmpL b a<0:=by
 rw [cmpL_lt,cmpL_lt]
 by_cases he:a=b
 ·exact .inr (.inl he)
 ·cases h:lexLt a b with
  | true=>exact .inl rfl
  | false=>exact .inr (.inr (lex_tri a b he h))
theorem cmpL_ntrans {a b c:List Int} (h:¬cmpL a b<0) (g:¬cmpL b c<0):¬cmpL a c<0:=by
 intro hac
 rcases cmpL_tri a b with h1 | h1 | h1
 ·exact h h1
 ·subst h1; exact g hac
 ·exact g (cmpL_trans _ _ _ h1 hac)
theorem u32w (a:Nat) (h:a<4294967296):IntKind.u32.wrap (a:Int)=a:=by rw [IntKind.wrap_u32]; omega
theorem mod32 (a:Nat) (h:a<4294967296):((a:Int) % 2^IntKind.u32.bits).toNat=a:=by
 have:(2:Int)^IntKind.u32.bits=4294967296:=rfl
 rw [this]; omega
theorem modN (a:Nat) (h:a<4294967296):a % 2^IntKind.u32.bits=a:=Nat.mod_eq_of_lt h
theorem or32 (a b:Nat) (ha:a<4294967296) (hb:b<4294967296):IntKind.u32.wrap ((a % 2^IntKind.u32.bits ||| b % 2^IntKind.u32.bits:Nat):Int)=((a ||| b:Nat):Int):=by
 rw [modN a ha,modN b hb]
 exact u32w _ (Nat.or_lt_two_pow (n:=32) ha hb)
theorem and32 (a b:Nat) (ha:a<4294967296) (hb:b<4294967296):IntKind.u32.wrap ((a % 2^IntKind.u32.bits &&& b % 2^IntKind.u32.bits:Nat):Int)=((a &&& b:Nat):Int):=by
 rw [modN a ha,modN b hb]
 exact u32w _ (Nat.lt_of_le_of_lt Nat.and_le_left ha)
theorem shl32 (i:Nat) (h:i<32):IntKind.u32.wrap (2^min i IntKind.u32.bits:Int)=((2^i:Nat):Int):=by
 have h1:min i IntKind.u32.bits=i:=Nat.min_eq_left (by show i≤32; omega)
 have h2:2^i<4294967296:=Nat.pow_lt_pow_right (by omega) h
 rw [h1,←u32w _ h2]
 congr 1
def fullN:Nat→Nat
 | 0=>0
 | i+1=>fullN i ||| 2^i
theorem fullN_lt:∀n,n≤32→fullN n<4294967296
 | 0,_=>by simp [fullN]
 | i+1,h=>Nat.or_lt_two_pow (n:=32) (fullN_lt i (by omega)) (Nat.pow_lt_pow_right (by omega) (by omega))
theorem fullN_bit:∀n k,(fullN n).testBit k=decide (k<n)
 | 0,k=>by simp [fullN]
 | i+1,k=>by
  rw [fullN,Nat.testBit_or,fullN_bit i k,Nat.testBit_two_pow]
  rw [Bool.eq_iff_iff]
  simp only [Bool.or_eq_true,decide_eq_true_eq]
  omega
theorem full02 (n:Nat) (hn:n≤32):ConP Tryz.prog 138 [.int .i64 n] fun r=>r = .int .u32 (fullN n):=by
 refine conP_of_conH (conH_of_W tok Tryz.func138 rfl rfl ?_)
 refine wx ?_
 simp -implicitDefEqProofs -dsimp [Tryz.f138,List.replicate]
 refine lw_of (W_loopM 18 [3,4,5,6,7,8,9,10,11,12,13,14,15,16,17] (by simp [mB]<;>rfl) (σ:=Nat) (fun i=>i≤n) (fun i=>n - i) (fun i=>[(4,.int .i64 i),(3,.int .u32 (fullN i))]) (fun _=>[]) 0 (by omega) (by simp [fullN]) rfl (by simp) ?_)
 intro i hi N Q hN hQ
 by_cases hb:i<n
 ·have h1:=shl32 i (by omega)
  have h2:=fullN_lt i (by omega)
  have h3:2^i<4294967296:=Nat.pow_lt_pow_right (by omega) (show i<32 by omega)
  have hf:fullN (i+1)=fullN i ||| 2^i:=rfl
  obtain ⟨p,hp⟩:∃p,p=2^i:=⟨_,rfl⟩
  rw [←hp] at h1 h3 hf
  have h4:=or32 (fullN i) p h2 h3
  rw [←hf] at h4
  refine wx ?_
  simp -implicitDefEqProofs -dsimp [hb,show (i:Int)<32 by omega,wrapS i (by omega),h1,h4]
  refine hN (i+1) _ _ (by omega) (by omega) ?_ ⟨[],?_⟩ ?_ ?_<;>simp [or_imp,forall_and,L1,encI]
 ·obtain rfl:i=n:=by omega
  refine wx ?_
  simp -implicitDefEqProofs -dsimp [hb]
  refine hQ _ _ _ ?_
  simp -implicitDefEqProofs -dsimp []
theorem sub02 (a b:Nat) (ha:a<4294967296) (hb:b<4294967296):ConP Tryz.prog 137 [.int .u32 a,.int .u32 b] fun r=>r = .bool (decide (a &&& b=a)):=by
 refine conP_of_conH (conH_of_W tok Tryz.func137 rfl rfl ?_)
 refine wx ?_
 simp -implicitDefEqProofs -dsimp [Tryz.f137,List.replicate,and32 a b ha hb]
 rw [Bool.eq_iff_iff,beq_iff_eq,decide_eq_true_iff]
 omega
theorem hasB_bit (s i:Nat) (hs:s<4294967296) (hi:i<32):hasB s i=s.testBit i:=by
 have h1:min i IntKind.u32.bits=i:=Nat.min_eq_left (by show i≤32; omega)
 have h2:((s:Int).fdiv (2^i) % 2^IntKind.u32.bits).toNat=s / 2^i:=by
  have h3:(s:Int).fdiv (2^i)=((s / 2^i:Nat):Int):=by
   rw [Int.fdiv_eq_ediv_of_nonneg _ (by have:(0:Int)<2^i:=Int.pow_pos (by omega); omega)]
   simp
  rw [h3]
  exact mod32 _ (Nat.lt_of_le_of_lt (Nat.div_le_self _ _) hs)
 have h4:(1 % 2^IntKind.u32.bits:Nat)=1:=rfl
 unfold hasB
 rw [h1,h2,h4,Nat.and_one_is_mod,u32w _ (by omega),Nat.testBit_eq_decide_div_mod_eq]
 rw [Bool.eq_iff_iff,beq_iff_eq,decide_eq_true_iff]
 omega
structure Fd where
 l:Nat
 r:Nat
def encD (d:Fd):V:=.agg [.int .u8 (d.l:Int),.int .u8 (d.r:Int)]
def encF (d:Fd):V:=.agg [.int .u32 (d.l:Int),.int .u32 (d.r:Int)]
@[simp] theorem encD_pure (d:Fd):AM.Pure (encD d):=by simp [encD]
@[simp] theorem encF_pure (d:Fd):AM.Pure (encF d):=by simp [encF]
@[simp] theorem encF_oneV (d:Fd):oneV (encF d)=true:=rfl
def LF (f:Bool) (ds:List Fd):V:=.lst 2 f (ds.map encF)
@[simp] theorem LF_pure (f:Bool) (ds:List Fd):AM.Pure (LF f ds):=by simp [LF]
def fdOf (n:Nat) (d:Fd):Fd:=⟨d.l &&& fullN n,d.r &&& fullN n⟩
def fdsTo (n:Nat) (ds:List Fd) (i:Nat):List Fd:=(ds.take i).map (fdOf n)
theorem fdsTo_len (n:Nat) (ds:List Fd) (i:Nat) (h:i≤ds.length):(fdsTo n ds i).length=i:=by simp [fdsTo]; omega
theorem fdsTo_succ (n:Nat) (ds:List Fd) (i:Nat) (h:i<ds.length):fdsTo n ds (i+1)=fdsTo n ds i++[fdOf n ds[i]]:=by
 unfold fdsTo
 rw [List.take_succ_eq_append_getElem h,List.map_append]; rfl
theorem cap8b (n:Nat) (h:n≤1000000000):n≤9223372036854775806∧(n+1)*8≤140737488355328:=by omega
theorem list09 (n:Nat) (ds:List Fd) (f:Bool) (hn:n≤32) (hl:ds.length≤1000000) (hd:∀d∈ds,d.l<256∧d.r<256):ConP Tryz.prog 103 [.int .i64 n,.lst 2 f (ds.map encD)] fun r=>r=LF false (ds.map (fdOf n)):=by
 have hF:=fullN_lt n hn
 have hc:=full02 n hn
 refine conP_of_conH (conH_of_W tok Tryz.func103 rfl rfl ?_)
 refine wx ?_
 simp -implicitDefEqProofs -dsimp [Tryz.f103,List.replicate]
 refine (callP (hc) (by simp)).mono ?_
 rintro r H' ⟨rfl,rfl⟩
 simp -implicitDefEqProofs -dsimp []
 refine lw_of (W_own 31 2 [6] (by simp) (W_loopM 36 [6,7,10,11,12,13,14,15,16,17,18,19,20,21,22,23,24,25,26,27,28,29,30,31,32,33,34,35] (by simp [mB]<;>rfl) (σ:=Nat) (fun i=>i≤ds.length) (fun i=>ds.length - i) (fun i=>[(7,.int .i64 i),(6,.buf 0 0 i i)]) (fun i=>[B.buf 31 2 ((fdsTo n ds i).map encF) false]) 0 (by omega) (by simp) (by simp [fdsTo]) (by simp) ?_))
 intro i hi N Q hN hQ
 have hli:=fdsTo_len n ds i hi
 by_cases hb:i<ds.length
 ·obtain ⟨h1,h2⟩:=hd ds[i] (List.getElem_mem hb)
  have hst:=fdsTo_succ n ds i hb
  have e1:=and32 ds[i].l (fullN n) (by omega) hF
  have e2:=and32 ds[i].r (fullN n) (by omega) hF
  have w1:=u32w ds[i].l (by omega)
  have w2:=u32w ds[i].r (by omega)
  refine wx ?_
  simp -implicitDefEqProofs -dsimp [hb]
  refine lw_of (W_drawT tok mixed [19] [] [] (by kernel_rfl) fun C K hC hK=>?_)
  simp -implicitDefEqProofs [hb,encD,w1,w2,e1,e2,cap8b i (by omega),hli]
  refine hK _ _ ?_
  simp -implicitDefEqProofs -dsimp [wrapS i (by omega)]
  refine hN (i+1) _ _ (by omega) (by omega) ?_ ⟨[],?_⟩ ?_ ?_<;>simp [or_imp,forall_and,L1,encI,hst,encF,fdOf,encD]
 ·obtain rfl:i=ds.length:=by omega
  refine wx ?_
  simp -implicitDefEqProofs -dsimp [hb]
  refine hQ _ _ _ ?_
  simp -implicitDefEqProofs -dsimp []
  rw [show LF false (ds.map (fdOf n))=LF false (fdsTo n ds ds.length) by unfold fdsTo; rw [List.take_length]]
  exact exp_buf rfl (by rw [List.length_map]; exact hli.symm) (by simp)
structure Tm where
 v:Int
 a:Int
 x:Vl
structure At where
 l:Tm
 op:Int
 r:Tm
structure Dn where
 vars:Int
 atoms:List At
structure Cl where
 any:Bool
 x:Vl
structure Cfd where
 l:List Int
 r:Int
 p:List Cl
structure Od where
 l:List Int
 r:List Int
def encTm (t:Tm):V:=.agg [.int .i64 t.v,.int .i64 t.a,.int .i64 t.x.k,.int .i64 t.x.n,.str t.x.s]
def encAt (a:At):V:=.agg [.int .i64 a.l.v,.int .i64 a.l.a,.int .i64 a.l.x.k,.int .i64 a.l.x.n,.str a.l.x.s,.int .i64 a.op,.int .i64 a.r.v,.int .i64 a.r.a,.int .i64 a.r.x.k,.int .i64 a.r.x.n,.str a.r.x.s]
def encCl (c:Cl):V:=.agg [.bool c.any,.int .i64 c.x.k,.int .i64 c.x.n,.str c.x.s]
@[simp] theorem encTm_pure (t:Tm):AM.Pure (encTm t):=by simp [encTm]
@[simp] theorem encAt_pure (a:At):AM.Pure (encAt a):=by simp [encAt]
@[simp] theorem encCl_pure (c:Cl):AM.Pure (encCl c):=by simp [encCl]
@[simp] theorem encAt_oneV (a:At):oneV (encAt a)=true:=rfl
@[simp] theorem encCl_oneV (c:Cl):oneV (encCl c)=true:=rfl
def LA (f:Bool) (al:List At):V:=.lst 11 f (al.map encAt)
def LCl (f:Bool) (cs:List Cl):V:=.lst 4 f (cs.map encCl)
@[simp] theorem LA_pure (f:Bool) (al:List At):AM.Pure (LA f al):=by simp [LA]
@[simp] theorem LCl_pure (f:Bool) (cs:List Cl):AM.Pure (LCl f cs):=by simp [LCl]
def encDn (f:Bool) (d:Dn):V:=.agg [.int .i64 d.vars,LA f d.atoms]
def encCfd (f g:Bool) (c:Cfd):V:=.agg [L1 f c.l,.int .i64 c.r,LCl g c.p]
def encOd (f g:Bool) (d:Od):V:=.agg [L1 f d.l,L1 g d.r]
@[simp] theorem encDn_pure (f:Bool) (d:Dn):AM.Pure (encDn f d):=by simp [encDn]
@[simp] theorem encCfd_pure (f g:Bool) (c:Cfd):AM.Pure (encCfd f g c):=by simp [encCfd]
@[simp] theorem encOd_pure (f g:Bool) (d:Od):AM.Pure (encOd f g d):=by simp [encOd]
def eqVB (x y:Vl):Bool:=x.k == y.k&&(x.n == y.n&&x.s == y.s)
theorem ba_beq2 (a b:ByteArray):(a == b)=true↔a=b:=by
 cases a; cases b
 rename_i x y
 rw [ByteArray.mk.injEq,show ((ByteArray.mk x == ByteArray.mk y)=(x == y)) from rfl]
 exact beq_iff_eq
theorem eqVB_iff (x y:Vl):eqVB x y=true↔x=y:=by
 unfold eqVB
 obtain ⟨a,b,c⟩:=x
 obtain ⟨a',b',c'⟩:=y
 rw [Bool.and_eq_true,Bool.and_eq_true,ba_beq2,beq_iff_eq,beq_iff_eq,Vl.mk.injEq]
theorem eqVl (H:List B) (k n:Int) (t:ByteArray) (k' n':Int) (t':ByteArray):eqA2 T H 132 (.agg [.int .i64 k,.int .i64 n,.str t]) (.agg [.int .i64 k',.int .i64 n',.str t'])=some (eqVB ⟨k,n,t⟩ ⟨k',n',t'⟩):=by
 have h2:∀x y:Int,eqD T 9999 2 (.int .i64 x) (.int .i64 y)=some (x == y):=fun x y=>by simp [eqD]
 have h1:∀x y:Int,eqD T 9999 3 (.int .i64 x) (.int .i64 y)=some (x == y):=fun x y=>by simp [eqD]
 have h3:∀x y:ByteArray,eqD T 9999 9 (.str x) (.str y)=some (x == y):=fun x y=>by simp [eqD]
 simp only [eqA2]
 rw [show (10000:Nat)=9999+1 from rfl,eqD]
 simp only [T_132]
 simp only [if_true,eqFs,cutA,T_2,T_3,T_9,isAggD,List.getElem?_cons_zero,List.getElem?_cons_succ,Bool.false_eq_true,if_false,h1,h2,h3,eqVB]
 cases (k == k')<;>cases (n == n')<;>cases (t == t')<;>simp
def zeroV (v:Vl):Bool:=eqVB v ⟨0,0,ByteArray.empty⟩
def tmB (n vars:Int) (t:Tm):Bool:=if t.v=0 then decide (t.a=0)&&validV t.x else decide (1≤t.v)&&(decide (t.v≤vars)&&(decide (0≤t.a)&&(decide (t.a<n)&&zeroV t.x)))
def atB (n vars:Int) (a:At):Bool:=decide (1≤a.op)&&(decide (a.op≤4)&&(tmB n vars a.l&&tmB n vars a.r))
def dnB (n:Int) (d:Dn):Bool:=decide (1≤d.vars)&&(decide (d.vars≤3)&&(decide (d.atoms.length≤20)&&d.atoms.all (atB n d.vars)))
def tmV (rs:List Rw) (t:Tm):Vl:=if t.v=0 then t.x else ((rs.getD (t.v - 1).toNat ⟨0,[]⟩).vals).getD t.a.toNat ⟨0,0,ByteArray.empty⟩
def atS (rs:List Rw) (a:At):Bool:=if a.op=1 then decide (cmpV (tmV rs a.l) (tmV rs a.r)=0) else if a.op=2 then !decide (cmpV (tmV rs a.l) (tmV rs a.r)=0) else if a.op=3 then decide (cmpV (tmV rs a.l) (tmV rs a.r)<0) else decide (cmpV (tmV rs a.l) (tmV rs a.r)≤0)
def allS (d:Dn) (rs:List Rw):Bool:=d.atoms.all (atS rs)
def ascI (n r:Int):Int→List Int→Bool
 | _,[]=>true
 | b,a::l=>decide (b<a)&&(decide (a<n)&&(!decide (a=r)&&ascI n r a l))
def clB (c:Cl):Bool:=if c.any=true then zeroV c.x else validV c.x
def cfB (n:Int) (c:Cfd):Bool:=decide (0≤c.r)&&(decide (c.r<n)&&(decide (c.p.length=c.l.length+1)&&(ascI n c.r (-1) c.l&&c.p.all clB)))
def inB (n:Int) (a:Int):Bool:=decide (0≤a)&&decide (a<n)
def olB (n:Int) (l:List Int):Bool:=decide (l.length≤8)&&l.all (inB n)
def odB (n:Int) (d:Od):Bool:=olB n d.l&&olB n d.r
structure Cn where
 name:ByteArray
 table:ByteArray
 kind:Int
 fd:Fd
 m1:Int
 m2:Int
 i1:ByteArray
 i2:List Int
 i3:ByteArray
 i4:List Int
 cfd:Cfd
 od:Od
 dn:Dn
def encCn (c:Cn):V:=.agg [.str c.name,.str c.table,.int .i64 c.kind,.int .u32 (c.fd.l:Int),.int .u32 (c.fd.r:Int),.int .u32 c.m1,.int .u32 c.m2,.str c.i1,L1 false c.i2,.str c.i3,L1 false c.i4,L1 false c.cfd.l,.int .i64 c.cfd.r,LCl false c.cfd.p,L1 false c.od.l,L1 false c.od.r,.int .i64 c.dn.vars,LA false c.dn.atoms]
def LCn (f:Bool) (cs:List Cn):V:=.lst 18 f (cs.map encCn)
@[simp] theorem encCn_pure (c:Cn):AM.Pure (encCn c):=by simp [encCn]
@[simp] theorem LCn_pure (f:Bool) (cs:List Cn):AM.Pure (LCn f cs):=by simp [LCn]
@[simp] theorem encCn_oneV (c:Cn):oneV (encCn c)=true:=by simp [encCn,oneV,L1,LCl,LA,V.one]
def fdOk1 (n:Nat) (d:Fd):Bool:=decide ((d.l ||| d.r) / 2^n=0)
def cnErr (t:Tb) (c:Cn):Int :=
 if c.table.toList == t.name.toList&&(decide (1≤c.kind)&&decide (c.kind≤6)) then
  if c.kind=2∨c.kind=3 then 14 else if c.kind=1 then (if fdOk1 t.attrs.length c.fd=true then 0 else 1) else
  if c.kind=4 then (if cfB t.attrs.length c.cfd=true then 0 else 1) else if c.kind=5 then (if odB t.attrs.length c.od=true then 0 else 1) else (if dnB t.attrs.length c.dn=true then 0 else 1)
 else 1
def srt (l:List Int):List Int:=l.mergeSort fun a b=>decide (a≤b)
theorem srt_perm (l:List Int):(srt l).Perm l:=List.mergeSort_perm _ _
theorem srt_sorted (l:List Int):(srt l).Pairwise (·≤·):=by
 have:=List.pairwise_mergeSort (le:=fun a b:Int=>decide (a≤b)) (fun a b c h g=>by
  simp only [decide_eq_true_eq] at h g ⊢; omega) (fun a b=>by
  rcases Int.le_total a b with h | h
  ·simp [h]
  ·simp [h]) l
 exact this.imp (fun h=>by simpa using h)
theorem srt_eq {l m:List Int} (hp:m.Perm l) (hs:m.Pairwise (·≤·)):m=srt l :=
 (hp.trans (srt_perm l).symm).eq_of_pairwise (le:=fun x y:Int=>x≤y) (fun x y _ _ h1 h2=>by omega) hs (srt_sorted l)
theorem srt_len (l:List Int):(srt l).length=l.length:=(srt_perm l).length_eq
theorem srt_asc {l:List Int} (h:l.Nodup):(srt l).Pairwise (· < ·):=by
 have h2:(srt l).Nodup:=(srt_perm l).nodup_iff.2 h
 exact ((srt_sorted l).and h2).imp (fun ⟨a,b⟩=>by omega)
theorem srt_pair {a b:Int} (h:a<b):srt [a,b]=[a,b]∧srt [b,a]=[a,b] :=
 ⟨(srt_eq (List.Perm.refl _) (by simp; omega)).symm,(srt_eq (List.Perm.swap _ _ _) (by simp; omega)).symm⟩
def idsR (rs:List Rw):List Int:=rs.map (·.id)
theorem idsR_len (rs:List Rw):(idsR rs).length=rs.length:=by simp [idsR]
def usedR (p:List Rw) (r:Rw):Bool:=p.any fun x=>x.id == r.id
theorem used_iff {p:List Rw} {r:Rw} : usedR p r=true↔r.id∈idsR p:=by
 unfold usedR idsR
 rw [List.any_eq_true,List.mem_map]
 exact ⟨fun ⟨x,h1,h2⟩=>⟨x,h1,by simpa using h2⟩,fun ⟨x,h1,h2⟩=>⟨x,h1,by simpa using h2⟩⟩
def ExtA (R:List Rw):List Rw→List Rw→Prop
 | _,[]=>True
 | p,r::q=>r∈R∧usedR p r=false∧ExtA R (p++[r]) q
theorem extA_snoc {R:List Rw} {r:Rw} : ∀{q p:List Rw},ExtA R p (q++[r])↔ExtA R p q∧r∈R∧usedR (p++q) r=false
 | [],p=>by simp [ExtA]
 | x::q,p=>by
  rw [List.cons_append,ExtA,ExtA,extA_snoc (q:=q) (p:=p++[x])]
  rw [List.append_assoc,List.singleton_append]
  exact ⟨fun ⟨a,b,c,d⟩=>⟨⟨a,b,c⟩,d⟩,fun ⟨⟨a,b,c⟩,d⟩=>⟨a,b,c,d⟩⟩
theorem extA_mem {R:List Rw} : ∀{q p:List Rw},ExtA R p q→∀r∈q,r∈R
 | [],_,_,r,h=>by cases h
 | x::q,p,h,r,hr=>by
  rcases List.mem_cons.1 hr with rfl | hr
  ·exact h.1
  ·exact extA_mem h.2.2 r hr
theorem extA_nodup {R:List Rw} : ∀{q p:List Rw},(idsR p).Nodup→ExtA R p q→(idsR (p++q)).Nodup
 | [],p,hp,_=>by simpa using hp
 | x::q,p,hp,h=>by
  have hx:x.id∉idsR p:=fun hm=>by have:=used_iff.2 hm; rw [h.2.1] at this; cases this
  have h2:(idsR (p++[x])).Nodup:=by
   unfold idsR at hp hx ⊢
   rw [List.map_append,List.nodup_append]
   refine ⟨hp,by simp,?_⟩
   intro a ha b hb
   simp at hb
   subst hb
   rintro rfl
   exact hx ha
  have:=extA_nodup h2 h.2.2
  rwa [List.append_assoc,List.singleton_append] at this
theorem foldl_mem {α β:Type} {f:List β→α→List β} {Q:α→β→Prop} (h:∀o r x,x∈f o r↔x∈o∨Q r x):∀(R:List α) (out:List β) (x:β),x∈R.foldl f out↔x∈out∨∃r∈R,Q r x
 | [],out,x=>by simp
 | r::R,out,x=>by
  rw [List.foldl_cons,foldl_mem h R (f out r) x,h]
  simp only [List.mem_cons,exists_eq_or_imp]
  rw [or_assoc]
def putN (out:List (List Int)) (l:List Int):List (List Int):=if out.contains l then out else out++[l]
theorem putN_mem {out:List (List Int)} {l x:List Int} : x∈putN out l↔x∈out∨x=l:=by
 unfold putN
 by_cases h:l∈out
 ·rw [if_pos (by simpa using h)]
  exact ⟨.inl,fun h2=>h2.elim id (fun e=>e▸h)⟩
 ·rw [if_neg (by simpa using h)]; simp
theorem putN_len (out:List (List Int)) (l:List Int):(putN out l).length≤out.length+1:=by
 unfold putN; split<;>simp
def stV (d:Dn) (out:List (List Int)) (rs:List Rw):List (List Int):=if allS d rs then putN out (srt (idsR rs)) else out
theorem stV_len (d:Dn) (out:List (List Int)) (rs:List Rw):(stV d out rs).length≤out.length+1:=by
 unfold stV; split
 ·exact putN_len _ _
 ·omega
def visF (d:Dn) (R:List Rw):Nat→List Rw→List (List Int)→List (List Int)
 | 0,p,out=>stV d out p
 | k+1,p,out=>R.foldl (fun o r=>if usedR p r then o else visF d R k (p++[r]) o) out
theorem visF_mem {d:Dn} {R:List Rw} : ∀(k:Nat) (p:List Rw) (out:List (List Int)) (x:List Int),x∈visF d R k p out↔x∈out∨∃q,q.length=k∧ExtA R p q∧allS d (p++q)=true∧x=srt (idsR (p++q))
 | 0,p,out,x=>by
  unfold visF stV
  constructor
  ·intro h
   split at h
   ·rename_i ha
    rcases putN_mem.1 h with h | h
    ·exact .inl h
    ·exact .inr ⟨[],rfl,trivial,by simpa using ha,by simpa using h⟩
   ·exact .inl h
  ·rintro (h | ⟨q,h1,_,h3,h4⟩)
   ·split
    ·exact putN_mem.2 (.inl h)
    ·exact h
   ·have:=List.length_eq_zero_iff.1 h1
    subst this
    rw [List.append_nil] at h3 h4
    rw [if_pos h3]
    exact putN_mem.2 (.inr h4)
 | k+1,p,out,x=>by
  unfold visF
  rw [foldl_mem (Q:=fun r x=>usedR p r=false∧∃q,q.length=k∧ExtA R (p++[r]) q∧allS d (p++[r]++q)=true∧x=srt (idsR (p++[r]++q))) (fun o r x=>by
   by_cases hu:usedR p r=true
   ·rw [if_pos hu,hu]; simp
   ·rw [if_neg hu,visF_mem k (p++[r]) o x]
    simp only [Bool.not_eq_true] at hu
    rw [hu]; simp)]
  constructor
  ·rintro (h | ⟨r,hr,hu,q,h1,h2,h3,h4⟩)
   ·exact .inl h
   ·exact .inr ⟨r::q,by simp [h1],⟨hr,hu,h2⟩,by simpa using h3,by simpa using h4⟩
  ·rintro (h | ⟨q,h1,h2,h3,h4⟩)
   ·exact .inl h
   ·cases q with
    | nil=>simp at h1
    | cons r q=>exact .inr ⟨r,h2.1,h2.2.1,q,by simpa using h1,h2.2.2,by simpa using h3,by simpa using h4⟩
theorem visF_len {d:Dn} {R:List Rw} : ∀(k:Nat) (p:List Rw) (out:List (List Int)),(visF d R k p out).length≤out.length+R.length^k
 | 0,p,out=>by unfold visF; exact stV_len d out p
 | k+1,p,out=>by
  unfold visF
  have key:∀(S:List Rw) (o:List (List Int)),(S.foldl (fun o r=>if usedR p r then o else visF d R k (p++[r]) o) o).length≤o.length+S.length*R.length^k:=fun S=>by
   induction S with
   | nil=>intro o; simp
   | cons s S ih =>
    intro o
    rw [List.foldl_cons]
    refine Nat.le_trans (ih _) ?_
    rw [List.length_cons,Nat.succ_mul]
    split
    ·omega
    ·have:=visF_len (d:=d) (R:=R) k (p++[s]) o; omega
  have:=key R out
  rw [Nat.pow_succ,Nat.mul_comm]
  exact this
def stepA (R:List Rw) (o:List Rw):List (List Rw):=(R.filter fun r=>!usedR o r).map fun r=>o++[r]
def asR (R:List Rw):Nat→List (List Rw)
 | 0=>[[]]
 | k+1=>(asR R k).flatMap (stepA R)
theorem asR_mem {R:List Rw} : ∀{k:Nat} {rs:List Rw},rs∈asR R k↔rs.length=k∧ExtA R [] rs
 | 0,rs=>by
  simp only [asR,List.mem_singleton]
  constructor
  ·rintro rfl; exact ⟨rfl,trivial⟩
  ·intro h; exact List.length_eq_zero_iff.1 h.1
 | k+1,rs=>by
  simp only [asR,List.mem_flatMap,stepA,List.mem_map,List.mem_filter]
  constructor
  ·rintro ⟨o,ho,r,⟨hr,hu⟩,rfl⟩
   obtain ⟨h1,h2⟩:=asR_mem.1 ho
   exact ⟨by simp [h1],extA_snoc.2 ⟨h2,hr,by simpa using hu⟩⟩
  ·rintro ⟨h1,h2⟩
   have hne:rs≠[]:=by rintro rfl; simp at h1
   rw [←List.dropLast_concat_getLast hne] at h2
   obtain ⟨h3,h4,h5⟩:=extA_snoc.1 h2
   exact ⟨rs.dropLast,asR_mem.2 ⟨by simp [h1],h3⟩,rs.getLast hne,⟨h4,by simpa using h5⟩,List.dropLast_concat_getLast hne⟩
theorem asR_len (R:List Rw):∀k,(asR R k).length≤R.length^k
 | 0=>by simp [asR]
 | k+1=>by
  have ih:=asR_len R k
  have key:∀l:List (List Rw),(l.flatMap (stepA R)).length≤l.length*R.length:=fun l=>by
   induction l with
   | nil=>simp
   | cons o l ihl =>
    rw [List.flatMap_cons,List.length_append,List.length_cons,Nat.succ_mul]
    have:(stepA R o).length≤R.length:=by unfold stepA; rw [List.length_map]; exact List.length_filter_le _ _
    omega
  unfold asR
  rw [Nat.pow_succ]
  exact Nat.le_trans (key _) (Nat.mul_le_mul_right _ ih)
def putR (l:List (List Int)) (x:List Int):List (List Int):=if l.any (fun y=>!lexLt y x&&!lexLt x y) then l else insE l x
theorem same_lex {x y:List Int} : (!lexLt y x&&!lexLt x y)=true↔y=x:=by
 constructor
 ·intro h
  rw [Bool.and_eq_true,Bool.not_eq_true',Bool.not_eq_true'] at h
  refine Classical.byContradiction fun hne=>?_
  have:=lex_tri y x hne h.1
  rw [h.2] at this; cases this
 ·rintro rfl; rw [lex_irr]; rfl
theorem insE_iff {acc:List (List Int)} {e x:List Int} : x∈insE acc e↔x=e∨x∈acc:=by
 refine ⟨fun h=>?_,insE_in⟩
 unfold insE insAt at h
 simp only [List.mem_append,List.mem_cons] at h
 rcases h with h | h | h
 ·exact .inr (List.mem_of_mem_take h)
 ·exact .inl h
 ·exact .inr (List.mem_of_mem_drop h)
theorem putR_mem {l:List (List Int)} {y x:List Int} : x∈putR l y↔x∈l∨x=y:=by
 unfold putR
 split
 ·rename_i h
  obtain ⟨z,hz,he⟩:=List.any_eq_true.1 h
  have:=same_lex.1 he
  subst this
  exact ⟨.inl,fun h=>h.elim id (fun e=>e▸hz)⟩
 ·rw [insE_iff,or_comm]
theorem putR_len (l:List (List Int)) (y:List Int):(putR l y).length≤l.length+1:=by
 unfold putR
 split
 ·omega
 ·unfold insE insAt
  simp
  omega
def stR (d:Dn) (out:List (List Int)) (rs:List Rw):List (List Int):=if allS d rs then putR out (srt (idsR rs)) else out
def VD (R:List Rw) (d:Dn) (x:List Int):Prop:=∃rs,rs.length=d.vars.toNat∧ExtA R [] rs∧allS d rs=true∧x=srt (idsR rs)
theorem vd_prog {R:List Rw} {d:Dn} {x:List Int} : x∈visF d R d.vars.toNat [] []↔VD R d x:=by
 rw [visF_mem]; simp [VD]
theorem vd_ref {R:List Rw} {d:Dn} {x:List Int} : x∈(asR R d.vars.toNat).foldl (stR d) []↔VD R d x:=by
 rw [foldl_mem (Q:=fun rs x=>allS d rs=true∧x=srt (idsR rs)) (fun o rs x=>by
  unfold stR
  by_cases h:allS d rs=true
  ·rw [if_pos h,putR_mem,h]; simp
  ·rw [if_neg h]; simp [h])]
 constructor
 ·rintro (h | ⟨rs,h1,h2,h3⟩)
  ·cases h
  ·obtain ⟨h4,h5⟩:=asR_mem.1 h1
   exact ⟨rs,h4,h5,h2,h3⟩
 ·rintro ⟨rs,h1,h2,h3,h4⟩
  exact .inr ⟨rs,asR_mem.2 ⟨h1,h2⟩,h3,h4⟩
def EdgL (R:List Rw) (x:List Int):Prop:=x.Pairwise (· < ·)∧x≠[]∧x.length≤3∧∀a∈x,a∈idsR R
theorem VD.edge {R:List Rw} {d:Dn} {x:List Int} (h:VD R d x) (h1:1≤d.vars) (h3:d.vars≤3):EdgL R x:=by
 obtain ⟨rs,hl,he,_,rfl⟩:=h
 have hn:(idsR rs).Nodup:=by simpa using extA_nodup (p:=[]) (by simp [idsR]) he
 refine ⟨srt_asc hn,fun e=>?_,by rw [srt_len,idsR_len]; omega,fun a ha=>?_⟩
 ·have:=srt_len (idsR rs); rw [e,idsR_len] at this; simp at this; omega
 ·have ha2:=(srt_perm _).mem_iff.1 ha
  unfold idsR at ha2 ⊢
  obtain ⟨r,hr,rfl⟩:=List.mem_map.1 ha2
  exact List.mem_map.2 ⟨r,extA_mem he r hr,rfl⟩
def prL (P:Rw→Rw→Bool):List Rw→List (List Int)
 | []=>[]
 | r::rs=>((rs.filter (P r)).map fun s=>[r.id,s.id])++prL P rs
theorem prL_mem {P:Rw→Rw→Bool} {x:List Int} : ∀{R:List Rw},(R.Pairwise fun r s=>r.id<s.id)→(x∈prL P R↔∃r∈R,∃s∈R,r.id<s.id∧P r s=true∧x=[r.id,s.id])
 | [],_=>by simp [prL]
 | a::R,h=>by
  rw [List.pairwise_cons] at h
  rw [prL,List.mem_append,prL_mem h.2]
  constructor
  ·rintro (h1 | ⟨r,hr,s,hs,h1⟩)
   ·obtain ⟨s,hs,rfl⟩:=List.mem_map.1 h1
    obtain ⟨hs1,hs2⟩:=List.mem_filter.1 hs
    exact ⟨a,List.mem_cons_self ..,s,List.mem_cons_of_mem _ hs1,h.1 s hs1,hs2,rfl⟩
   ·exact ⟨r,List.mem_cons_of_mem _ hr,s,List.mem_cons_of_mem _ hs,h1⟩
  ·rintro ⟨r,hr,s,hs,h1,h2,h3⟩
   rcases List.mem_cons.1 hr with e | hr2
   ·rcases List.mem_cons.1 hs with e2 | hs2
    ·rw [e,e2] at h1; omega
    ·rw [e] at h2 h3
     exact .inl (List.mem_map.2 ⟨s,List.mem_filter.2 ⟨hs2,h2⟩,h3.symm⟩)
   ·rcases List.mem_cons.1 hs with e2 | hs2
    ·have:=h.1 r hr2; rw [e2] at h1; omega
    ·exact .inr ⟨r,hr2,s,hs2,h1,h2,h3⟩
theorem prL_filter {P:Rw→Rw→Bool} {p:Rw→Bool} : ∀R:List Rw,prL P (R.filter p)=prL (fun r s=>p r&&(p s&&P r s)) R
 | []=>rfl
 | a::R=>by
  rw [prL]
  by_cases h:p a=true
  ·rw [List.filter_cons_of_pos h,prL,prL_filter R,List.filter_filter]
   congr 3
   funext s
   rw [h,Bool.true_and]
   exact Bool.and_comm _ _
  ·rw [List.filter_cons_of_neg h,prL_filter R]
   simp only [Bool.not_eq_true] at h
   simp [h]
theorem prL_edge {P:Rw→Rw→Bool} {x:List Int} {R:List Rw} (hR:R.Pairwise fun r s=>r.id<s.id) (h:x∈prL P R):EdgL R x:=by
 obtain ⟨r,hr,s,hs,h1,_,rfl⟩:=(prL_mem hR).1 h
 refine ⟨by simpa using h1,by simp,by simp,fun a ha=>?_⟩
 unfold idsR
 simp at ha
 rcases ha with rfl | rfl
 ·exact List.mem_map.2 ⟨r,hr,rfl⟩
 ·exact List.mem_map.2 ⟨s,hs,rfl⟩
theorem prL_len {P:Rw→Rw→Bool} : ∀R:List Rw,(prL P R).length≤R.length*R.length
 | []=>by simp [prL]
 | a::R=>by
  rw [prL,List.length_append,List.length_map,List.length_cons]
  have h1:=List.length_filter_le (P a) R
  have h2:=prL_len (P:=P) R
  have h3:(R.length+1)*(R.length+1)=R.length*R.length+R.length+R.length+1:=by rw [Nat.add_mul,Nat.mul_add]; omega
  omega
def bitsF (n s:Nat):List Nat:=(List.range n).filter s.testBit
theorem bitsF_mem {n s k:Nat} : k∈bitsF n s↔k<n∧s.testBit k=true:=by simp [bitsF]
theorem bitsF_len (n s:Nat):(bitsF n s).length≤n:=by
 have:=List.length_filter_le s.testBit (List.range n)
 simpa [bitsF] using this
theorem bitsF_succ (n s:Nat):bitsF (n+1) s=bitsF n s++(if s.testBit n then [n] else []):=by
 unfold bitsF
 rw [List.range_succ,List.filter_append]
 congr 1
 by_cases h:s.testBit n=true
 ·rw [if_pos h,List.filter_cons_of_pos h]; rfl
 ·rw [if_neg h,List.filter_cons_of_neg h]; rfl
theorem bitsF_none {s:Nat} : ∀{n:Nat},(∀j,j<n→s.testBit j=false)→bitsF n s=[]
 | 0,_=>rfl
 | n+1,h=>by rw [bitsF_succ,bitsF_none (fun j hj=>h j (by omega)),h n (by omega)]; rfl
theorem bits_low {x y t:Nat} (h1:∀j,j<t→x.testBit j=false) (h2:x.testBit t=true) (h3:∀j,j≤t→y.testBit j=false) (h4:∀j,t<j→y.testBit j=x.testBit j):∀n,t<n→bitsF n x=t::bitsF n y
 | 0,h=>by omega
 | n+1,h=>by
  rw [bitsF_succ,bitsF_succ]
  by_cases hn:n=t
  ·subst hn
   rw [bitsF_none h1,bitsF_none (fun j hj=>h3 j (by omega)),h2,h3 n (by omega)]
   rfl
  ·rw [bits_low h1 h2 h3 h4 n (by omega),h4 n (by omega)]; rfl
theorem low_bit:∀x:Nat,0<x→∃t m,x=2^(t+1)*m+2^t:=by
 intro x
 induction x using Nat.strongRecOn with
 | _ x ih =>
  intro h
  rcases Nat.mod_two_eq_zero_or_one x with h2 | h2
  ·obtain ⟨t,m,e⟩:=ih (x / 2) (by omega) (by omega)
   refine ⟨t+1,m,?_⟩
   have e1:x=2*(x / 2):=by omega
   rw [e1,e,Nat.mul_add,←Nat.mul_assoc,←Nat.pow_succ',←Nat.pow_succ']
  ·exact ⟨0,x / 2,by omega⟩
theorem low_test {t m j:Nat} : (2^(t+1)*m+2^t).testBit j=if j<t+1 then decide (t=j) else m.testBit (j - (t+1)):=by
 rw [Nat.testBit_two_pow_mul_add _ (Nat.pow_lt_pow_right (by omega) (by omega))]
 split
 ·rw [Nat.testBit_two_pow]
 ·rfl
theorem low_pred {t m j:Nat} : (2^(t+1)*m+2^t - 1).testBit j=if j<t+1 then decide (j<t) else m.testBit (j - (t+1)):=by
 have h0:0<2^t:=Nat.two_pow_pos t
 have h1:2^(t+1)*m+2^t - 1=2^(t+1)*m+(2^t - 1):=by omega
 rw [h1,Nat.testBit_two_pow_mul_add _ (by rw [Nat.pow_succ]; omega)]
 split
 ·rw [Nat.testBit_two_pow_sub_one]
 ·rfl
theorem bits_step {x:Nat} (h:0<x) (h2:x<4294967296):∃t,t<32∧x.testBit t=true∧bitsF 32 x=t::bitsF 32 (x &&& (x - 1))∧x &&& (4294967296 - x)=2^t∧x &&& (x - 1)<x:=by
 obtain ⟨t,m,e⟩:=low_bit x h
 have ht:t<32:=by
  refine Classical.byContradiction fun hn=>?_
  have:2^32≤2^t:=Nat.pow_le_pow_right (by omega) (by omega)
  have h5:0≤2^(t+1)*m:=Nat.zero_le _
  omega
 have hx:∀j,x.testBit j=if j<t+1 then decide (t=j) else m.testBit (j - (t+1)):=fun j=>by rw [e]; exact low_test
 have hy:∀j,(x - 1).testBit j=if j<t+1 then decide (j<t) else m.testBit (j - (t+1)):=fun j=>by rw [e]; exact low_pred
 have hz:∀j,(x &&& (x - 1)).testBit j=if j<t+1 then false else m.testBit (j - (t+1)):=fun j=>by
  rw [Nat.testBit_and,hx,hy]
  split
  ·by_cases h:t=j
   ·subst h; simp
   ·simp [h]
  ·simp
 refine ⟨t,ht,by rw [hx]; simp,bits_low (fun j hj=>?_) (by rw [hx]; simp) (fun j hj=>?_) (fun j hj=>?_) 32 ht,?_,?_⟩
 ·rw [hx,if_pos (by omega)]; simp; omega
 ·rw [hz,if_pos (by omega)]
 ·rw [hz,hx,if_neg (by omega),if_neg (by omega)]
 ·apply Nat.eq_of_testBit_eq
  intro j
  have h6:(4294967296 - x).testBit j=(decide (j<32)&&!(x - 1).testBit j):=by
   have:=Nat.testBit_two_pow_sub_succ (x:=x - 1) (n:=32) (by omega) j
   rw [show (2:Nat)^32 - (x - 1+1)=4294967296 - x by omega] at this
   exact this
  rw [Nat.testBit_and,h6,hx,hy,Nat.testBit_two_pow]
  by_cases h7:j<t+1
  ·rw [if_pos h7,if_pos h7]
   by_cases h8:t=j
   ·subst h8; simp [ht]
   ·simp [h8]
  ·rw [if_neg h7,if_neg h7]
   have:¬t=j:=by omega
   cases m.testBit (j - (t+1))<;>simp [this]
 ·have:=Nat.and_le_right (n:=x) (m:=x - 1)
  omega
def zV:Vl:=⟨0,0,ByteArray.empty⟩
def bothA (op:Int) (a:Nat):At:=⟨⟨1,(a:Int),zV⟩,op,⟨2,(a:Int),zV⟩⟩
def fdDn (L:List Nat) (b:Nat):Dn:=⟨2,L.map (bothA 1)++[bothA 2 b]⟩
theorem atS_eq (x y:Rw) (a:Nat):atS [x,y] (bothA 1 a)=true↔vAt x.vals a=vAt y.vals a:=by
 rw [←cmpV_zero]
 simp [atS,bothA,tmV,vAt]
theorem atS_ne (x y:Rw) (a:Nat):atS [x,y] (bothA 2 a)=true↔vAt x.vals a≠vAt y.vals a:=by
 rw [Ne,←cmpV_zero]
 simp [atS,bothA,tmV,vAt]
theorem vd_fd {R:List Rw} {L:List Nat} {b:Nat} {x:List Int} : VD R (fdDn L b) x↔∃r∈R,∃s∈R,r.id≠s.id∧(∀a∈L,vAt r.vals a=vAt s.vals a)∧vAt r.vals b≠vAt s.vals b∧x=srt [r.id,s.id]:=by
 have hall:∀r s,allS (fdDn L b) [r,s]=true↔(∀a∈L,vAt r.vals a=vAt s.vals a)∧vAt r.vals b≠vAt s.vals b:=fun r s=>by
  unfold allS fdDn
  simp only [List.all_append,List.all_map,Bool.and_eq_true,List.all_eq_true,List.all_cons,List.all_nil,Function.comp,atS_eq,atS_ne,and_true]
 constructor
 ·rintro ⟨rs,h1,h2,h3,h4⟩
  obtain ⟨r,s,rfl⟩:∃r s,rs=[r,s]:=by
   match rs,h1 with
   | [r,s],_=>exact ⟨r,s,rfl⟩
  obtain ⟨h5,h6⟩:=(hall r s).1 h3
  refine ⟨r,h2.1,s,h2.2.2.1,?_,h5,h6,by simpa [idsR] using h4⟩
  have:=h2.2.2.2.1
  simpa [usedR] using this
 ·rintro ⟨r,hr,s,hs,h1,h2,h3,rfl⟩
  exact ⟨[r,s],rfl,⟨hr,by simp [usedR],hs,by simpa [usedR] using h1,trivial⟩,(hall r s).2 ⟨h2,h3⟩,by simp [idsR]⟩
def fdP (l r:Nat) (a b:Rw):Bool:=agreeR a b l&&!agreeR a b r
theorem fd_mem {R:List Rw} {n l r:Nat} {x:List Int} {L M:List Nat} (hR:R.Pairwise fun r s=>r.id<s.id) (hv:∀w∈R,w.vals.length=n) (hn:n≤32) (hl:l<2^n) (hr:r<2^n) (hL:∀k,k∈L↔l.testBit k=true) (hM:∀k,k∈M↔r.testBit k=true∧l.testBit k=false) :
  (∃b∈M,VD R (fdDn L b) x)↔x∈prL (fdP l r) R:=by
 have hp:(2:Nat)^n≤2^32:=Nat.pow_le_pow_right (by omega) hn
 have lt:∀s k,s<2^n→s.testBit k=true→k<n:=fun s k hs hk=>by
  refine Classical.byContradiction fun hc=>?_
  have:s<2^k:=Nat.lt_of_lt_of_le hs (Nat.pow_le_pow_right (by omega) (by omega))
  rw [Nat.testBit_lt_two_pow this] at hk; cases hk
 have ag:∀s:Nat,s<2^n→∀a∈R,∀b∈R,(agreeR a b s=true↔∀k,s.testBit k=true→vAt a.vals k=vAt b.vals k):=fun s hs a ha b hb=>by
  rw [agreeR_iff (by rw [hv a ha,hv b hb]),hv a ha]
  constructor
  ·intro h k hk
   have hkn:=lt s k hs hk
   exact h k hkn (by rw [hasB_bit s k (by omega) (by omega)]; exact hk)
  ·intro h k hkn hk
   rw [hasB_bit s k (by omega) (by omega)] at hk
   exact h k hk
 rw [prL_mem hR]
 constructor
 ·rintro ⟨b,hb,hx⟩
  obtain ⟨u,hu,w,hw,h1,h2,h3,rfl⟩:=vd_fd.1 hx
  obtain ⟨hb1,hb2⟩:=(hM b).1 hb
  rcases Int.lt_or_gt_of_ne h1 with h4 | h4
  ·refine ⟨u,hu,w,hw,h4,?_,(srt_pair h4).1⟩
   unfold fdP
   rw [Bool.and_eq_true,ag l hl u hu w hw,Bool.not_eq_true',←Bool.not_eq_true,ag r hr u hu w hw]
   exact ⟨fun k hk=>h2 k ((hL k).2 hk),fun h=>h3 (h b hb1)⟩
  ·refine ⟨w,hw,u,hu,h4,?_,(srt_pair h4).2⟩
   unfold fdP
   rw [Bool.and_eq_true,ag l hl w hw u hu,Bool.not_eq_true',←Bool.not_eq_true,ag r hr w hw u hu]
   exact ⟨fun k hk=>(h2 k ((hL k).2 hk)).symm,fun h=>h3 (h b hb1).symm⟩
 ·rintro ⟨u,hu,w,hw,h1,h2,rfl⟩
  unfold fdP at h2
  rw [Bool.and_eq_true,ag l hl u hu w hw,Bool.not_eq_true',←Bool.not_eq_true,ag r hr u hu w hw] at h2
  obtain ⟨h3,h4⟩:=h2
  obtain ⟨b,hb⟩:=Classical.not_forall.1 h4
  obtain ⟨hb1,hb2⟩:=Classical.not_imp.1 hb
  have hb3:l.testBit b=false:=by
   rw [←Bool.not_eq_true]
   exact fun h=>hb2 (h3 b h)
  exact ⟨b,(hM b).2 ⟨hb1,hb3⟩,vd_fd.2 ⟨u,hu,w,hw,by omega,fun a ha=>h3 a ((hL a).1 ha),hb2,(srt_pair h1).1.symm⟩⟩
def clF (c:Cl) (v:Vl):Bool:=c.any||eqVB c.x v
def clAt (p:List Cl) (i:Nat):Cl:=p.getD i ⟨true,zV⟩
def leftT (c:Cfd) (r:Rw):Nat→List Int→Bool
 | _,[]=>true
 | i,a::l=>clF (clAt c.p i) (vAt r.vals a.toNat)&&leftT c r (i+1) l
def leftF (c:Cfd) (r:Rw):Bool:=leftT c r 0 c.l
def rightF (c:Cfd) (r:Rw):Bool:=clF (clAt c.p c.l.length) (vAt r.vals c.r.toNat)
def pairF (c:Cfd) (a b:Rw):Bool:=!eqVB (vAt a.vals c.r.toNat) (vAt b.vals c.r.toNat)&&c.l.all fun k=>eqVB (vAt a.vals k.toNat) (vAt b.vals k.toNat)
def cfdV (c:Cfd) (R:List Rw):List (List Int):=((R.filter (leftF c)).filter fun r=>!rightF c r).map (fun r=>[r.id])++prL (pairF c) (R.filter (leftF c))
def aloneF (c:Cfd) (r:Rw):Bool:=leftF c r&&!rightF c r
def pair2F (c:Cfd) (a b:Rw):Bool:=leftF c a&&(leftF c b&&pairF c a b)
theorem cfdV_ref (c:Cfd) (R:List Rw):cfdV c R=(R.filter (aloneF c)).map (fun r=>[r.id])++prL (pair2F c) R:=by
 unfold cfdV
 rw [prL_filter,List.filter_filter]
 congr 3
 funext r
 unfold aloneF
 exact Bool.and_comm _ _
theorem eqVB_cmp (x y:Vl):eqVB x y=decide (cmpV x y=0):=by
 rw [Bool.eq_iff_iff,eqVB_iff,decide_eq_true_eq,cmpV_zero]
theorem cfdV_edge {c:Cfd} {R:List Rw} {x:List Int} (hR:R.Pairwise fun r s=>r.id<s.id) (h:x∈cfdV c R):EdgL R x:=by
 rw [cfdV_ref,List.mem_append] at h
 rcases h with h | h
 ·obtain ⟨r,hr,rfl⟩:=List.mem_map.1 h
  refine ⟨by simp,by simp,by simp,fun a ha=>?_⟩
  simp at ha
  subst ha
  exact List.mem_map.2 ⟨r,(List.mem_filter.1 hr).1,rfl⟩
 ·exact prL_edge hR h
theorem cfdV_len (c:Cfd) (R:List Rw):(cfdV c R).length≤R.length+R.length*R.length:=by
 rw [cfdV_ref,List.length_append,List.length_map]
 have h1:=List.length_filter_le (aloneF c) R
 have h2:=prL_len (P:=pair2F c) R
 omega
def cmpO (a b:Rw):List Int→Int
 | []=>0
 | i::l=>if cmpV (vAt a.vals i.toNat) (vAt b.vals i.toNat)=0 then cmpO a b l else cmpV (vAt a.vals i.toNat) (vAt b.vals i.toNat)
theorem cmpI_rng (x y:Int) : -1≤cmpI x y∧cmpI x y≤1:=by
 unfold cmpI; split
 ·omega
 ·split<;>omega
theorem cmpB_rng:∀(a b:List UInt8),-1≤Lib.compareBytes a b∧Lib.compareBytes a b≤1
 | [],[]=>by simp [Lib.compareBytes]
 | [],_::_=>by simp [Lib.compareBytes]
 | _::_,[]=>by simp [Lib.compareBytes]
 | a::xs,b::bs=>by
  rw [Lib.compareBytes]
  split
  ·omega
  ·split
   ·omega
   ·exact cmpB_rng xs bs
theorem cmpV_rng (x y:Vl) : -1≤cmpV x y∧cmpV x y≤1:=by
 unfold cmpV
 split
 ·split
  ·exact cmpB_rng _ _
  ·exact cmpI_rng _ _
 ·exact cmpI_rng _ _
theorem cmpO_rng (a b:Rw):∀l,-1≤cmpO a b l∧cmpO a b l≤1
 | []=>by simp [cmpO]
 | i::l=>by
  rw [cmpO]
  split
  ·exact cmpO_rng a b l
  ·exact cmpV_rng _ _
def kindO (d:Od) (a b:Rw):Int:=if cmpO a b d.l=0∧¬cmpO a b d.r=0 then 1 else if cmpO a b d.l*cmpO a b d.r<0 then 2 else 0
def odP (d:Od) (a b:Rw):Bool:=!decide (kindO d a b=0)
end
end Go.Proofs.YtfaleabndlcanaaGreatDoor
namespace Go.Proofs.YtfaleabndlcanaaGreatDoor
section
open Go Go.AM Go.RowKit Go.Lib Go.Sort
theorem nanK64 (x:Int) (W:World):Calls Tryz.prog 150 #[.int .i64 x] W fun e w'=>e = .returned (.bool false)∧w'=W:=by
 go_enter Tryz.func150,Tryz.ntmps150
 go_wp2
 go_ret
 exact ⟨rfl,rfl⟩
theorem cmpK64 (x y:Int) (W:World):Calls Tryz.prog 104 #[.int .i64 x,.int .i64 y] W fun e w'=>e = .returned (.int .i64 (cmpI x y))∧w'=W:=by
 have h1:=nanK64 x W
 have h2:=nanK64 y W
 by_cases c1:x<y
 ·rw [show cmpI x y = -1 by unfold cmpI; rw [if_pos c1]]
  go_enter Tryz.func104,Tryz.ntmps104
  go_wp2_with (go_at_call 150; first | (refine h1.mono ?_; rintro e w' ⟨rfl,rfl⟩) | (refine h2.mono ?_; rintro e w' ⟨rfl,rfl⟩))
  go_ret
  exact ⟨rfl,rfl⟩
 ·by_cases c2:y<x
  ·rw [show cmpI x y=1 by unfold cmpI; rw [if_neg c1,if_pos c2]]
   have c3:x > y:=c2
   go_enter Tryz.func104,Tryz.ntmps104
   go_wp2_with (go_at_call 150; first | (refine h1.mono ?_; rintro e w' ⟨rfl,rfl⟩) | (refine h2.mono ?_; rintro e w' ⟨rfl,rfl⟩))
   go_ret
   exact ⟨rfl,rfl⟩
  ·rw [show cmpI x y=0 by unfold cmpI; rw [if_neg c1,if_neg c2]]
   have c3:¬x > y:=c2
   go_enter Tryz.func104,Tryz.ntmps104
   go_wp2_with (go_at_call 150; first | (refine h1.mono ?_; rintro e w' ⟨rfl,rfl⟩) | (refine h2.mono ?_; rintro e w' ⟨rfl,rfl⟩))
   go_ret
   exact ⟨rfl,rfl⟩
def AtI (w:World) (A:Option Addr) (l:List Int):Prop:=∀(i:Nat) (h:i<l.length),∃b o,A=some ⟨b,o,none⟩∧b<w.heap.size∧w.cell? ⟨b,o+i,none⟩=some (.int .i64 l[i])
theorem AtI.grown {w:World} {A:Option Addr} {l:List Int} (h:AtI w A l) (q:Nat) (os:Array Obj):AtI (grow (w.drewN q) os) A l:=fun i hi=>by
 obtain ⟨b,o,h1,h2,h3⟩:=h i hi
 refine ⟨b,o,h1,?_,?_⟩
 ·rw [size_grow]; exact Nat.lt_of_lt_of_le h2 (Nat.le_add_right _ _)
 ·rw [cell?_grow _ _ _ (by exact h2)]; exact h3
def GW (W w:World):Prop:=∃q os,w=grow (W.drewN q) os
theorem GW.refl (W:World):GW W W:=⟨0,#[],by rw [grow_empty]; rfl⟩
theorem GW.at {W w:World} (h:GW W w) {A:Option Addr} {l:List Int} (g:AtI W A l):AtI w A l:=by
 obtain ⟨q,os,rfl⟩:=h
 exact g.grown q os
theorem compareIK (a b:List Int) (A B:Option Addr) (ca cb:Nat) (W:World) (hA:AtI W A a) (hB:AtI W B b) (ha:a.length≤1000000) (hb:b.length≤1000000) :
  Calls Tryz.prog 60 #[.slice A a.length ca,.slice B b.length cb] W fun e w'=>e = .returned (.int .i64 (cmpL a b))∧∃q os',w'=grow (W.drewN q) os':=by
 have hc:=fun x y W=>cmpK64 x y W
 obtain ⟨r,hr⟩:∃r,r=cmpL a b:=⟨_,rfl⟩
 rw [←hr]
 go_enter Tryz.func60,Tryz.ntmps60
 go_wp2
 go_loopg [11] a.length (fun g s11 wr=>∃(i:Nat),s11 = .int .i64 i∧i≤a.length∧i≤b.length∧a.length - i≤g∧Aside (GW W wr)∧cmpL (a.drop i) (b.drop i)=r)
 case atStart=>exact ⟨0,rfl,by omega,by omega,by omega,GW.refl W,by rw [List.drop_zero,List.drop_zero,hr]⟩
 clear hr
 case round =>
  obtain ⟨i,rfl,hi,hi2,hg,hwr,hx⟩:=hrel
  by_cases h1:i<a.length
  ·obtain ⟨ba,oa,hAe,hba,ca0⟩:=(hwr.out.at hA) i h1
   subst hAe
   by_cases h2:i<b.length
   ·obtain ⟨bb,ob,hBe,hbb,cb0⟩:=(hwr.out.at hB) i h2
    subst hBe
    rw [List.drop_eq_getElem_cons h1,List.drop_eq_getElem_cons h2,cmpL] at hx
    generalize a[i]=x at ca0 hx
    generalize b[i]=y at cb0 hx
    obtain ⟨z,hz⟩:∃z,z=cmpI x y:=⟨_,rfl⟩
    have hcc:=fun W=>hc x y W
    rw [←hz] at hx hcc
    clear hz hc hA hB
    by_cases hq:z=0
    ·rw [if_pos hq] at hx
     subst hq
     go_wp2_with (go_at_call 104; refine (hcc _).mono ?_; rintro e w' ⟨rfl,rfl⟩)
     go_roundg (a.length - (i+1))
     case measure=>omega
     case rel=>exact ⟨i+1,by go_num,by omega,by omega,Nat.le_refl _,hwr.out,hx⟩
    ·rw [if_neg hq] at hx
     go_wp2_with (go_at_call 104; refine (hcc _).mono ?_; rintro e w' ⟨rfl,rfl⟩)
     go_ret
     exact ⟨by first | rfl | (rw [hx]; rfl),hwr.out⟩
   ·rw [List.drop_eq_getElem_cons h1,List.drop_of_length_le (show b.length≤i by omega),cmpL] at hx
    have h2':¬(i:Int)<b.length:=by omega
    go_wp2_with fail
    go_ret
    exact ⟨by first | rfl | (rw [hx]; rfl),hwr.out⟩
  ·rw [List.drop_of_length_le (show a.length≤i by omega)] at hx
   by_cases h2:a.length<b.length
   ·rw [List.drop_eq_getElem_cons (show i<b.length by omega),cmpL] at hx
    go_wp2_with fail
    go_ret
    exact ⟨by rw [hx]; rfl,hwr.out⟩
   ·rw [List.drop_of_length_le (show b.length≤i by omega),cmpL] at hx
    go_wp2_with fail
    go_ret
    exact ⟨by rw [hx]; rfl,hwr.out⟩
theorem putRow_id {α:Type} [Inhabited α] (enc:α→Value) (w:World) (blk off:Nat) (d:Array α):putRow enc w blk off d=putRow id w blk off (d.map enc):=by
 unfold putRow
 refine mapBlock_congr _ _ _ _ fun c _ _ _=>?_
 apply Array.ext_getElem?
 intro k
 simp only [putCells,Array.getElem?_mapIdx,Array.size_map]
 cases c[k]? with
 | none=>rfl
 | some y =>
  simp only [Option.map_some]
  by_cases h:off≤k∧k<off+d.size
  ·rw [if_pos h,if_pos h]
   have hk:k - off<d.size:=by omega
   rw [getElem!_pos d (k - off) hk,getElem!_pos (d.map enc) (k - off) (by simpa using hk)]
   simp
  ·rw [if_neg h,if_neg h]
theorem row_turned {s:AM.St} (hg:AM.Good s) {k e z:Nat} {xs ys:List V} (hk:s.H[k]?=some (.buf e z xs false)) (hκ:s.κ k≠0) (F:Array Value) (n:Nat) (os:Array Obj) (hl:ys.length=xs.length) (hF:F.size=xs.length*z)
  (hy:∀y∈ys,y.cells.length=z∧∀c∈y.cells,c.one=true) (hr:∀i y j c,ys[i]?=some y→y.cells[j]?=some c→Rel s c F[i*z+j]!) (W:World) (hW:W=grow (putRow id (Go.Sort.ahead s.w n) (s.φ k) 0 F) os) :
  AM.Good (s.setB W k (.buf e z ys false))∧AM.Step s (s.setB W k (.buf e z ys false)):=by
 have hlk:=lvB hk hκ
 have hlt:=(hg.lt k hlk).1
 obtain ⟨vs,h1,h2,h3,h4,h5,h6⟩:=hg.blk k _ hk
 have hb:=h1 hκ
 have ho:∀b,b<s.w.heap.size→b≠s.φ k→W.heap[b]?=s.w.heap[b]?:=fun b hb' hne=>by
  subst hW
  rw [heap_grow_old _ _ (by rw [Go.Proofs.size_putRow]; exact hb')]
  simp only [putRow,mapBlock,Go.Sort.ahead,Array.getElem?_modify,if_neg (Ne.symm hne)]
 have hbk:W.heap[s.φ k]?=some (.cells (putCells id 0 F vs) e (0,0)):=by
  subst hW
  rw [heap_grow_old _ _ (by rw [Go.Proofs.size_putRow]; exact hlt)]
  simp [putRow,mapBlock,Go.Sort.ahead,Array.getElem?_modify,hb,onCells]
 have hsz:s.w.heap.size≤W.heap.size:=by
  subst hW
  rw [size_grow,Go.Proofs.size_putRow]
  exact Nat.le_add_right _ _
 have ha:B.alike (.buf e z xs false) (.buf e z ys false):=⟨rfl,rfl,hl.symm,rfl,rfl⟩
 have e1:W.os=s.w.os:=by subst hW; rfl
 have e2:W.tape=s.w.tape:=by subst hW; rfl
 have e3:W.output=s.w.output:=by subst hW; rfl
 clear hW
 have hst:=setB_step (w:=W) hg hk hlk ha e1 e2 e3 hsz ho
 refine ⟨setB_good hg hk hlk ha e1 e2 e3 hsz ho (fun _=>?_),hst⟩
 refine ⟨putCells id 0 F vs,fun _=>hbk,by simp only [putCells,Array.size_mapIdx]; exact h2,by rw [hl]; exact h3,h4,hy,fun i x j c u hi hj hu=>?_⟩
 have hil:=getElem?_lt hi
 have hjl:=getElem?_lt hj
 rw [(hy x (List.mem_of_getElem? hi)).1] at hjl
 have hlt2:i*z+j<F.size:=by
  rw [hF]
  have:=Nat.mul_le_mul_right z (show i+1≤xs.length by omega)
  rw [Nat.add_mul,Nat.one_mul] at this
  omega
 have hu2:u=F[i*z+j]!:=by
  simp only [putCells,Array.getElem?_mapIdx] at hu
  cases hv:vs[i*z+j]? with
  | none=>rw [hv] at hu; cases hu
  | some v =>
   rw [hv,Option.map_some,if_pos ⟨by omega,by omega⟩,Nat.sub_zero] at hu
   exact (Option.some.inj hu).symm
 rw [hu2]
 exact (hr i x j c hi hj).step hst
end
end Go.Proofs.YtfaleabndlcanaaGreatDoor
namespace Go.Proofs.YtfaleabndlcanaaGreatDoor
section
open Go Go.Shelf
def renI:Go.Shelf.Ren:=⟨fun n=>match n with
  | 6=>86
  | 14=>132
  | 15=>133
  | 20=>168
  | 21=>169
  | 22=>170
  | 23=>171
  | 24=>172
  | 25=>173
  | 26=>174
  | 27=>175
  | 28=>176
  | 29=>177
  | 46=>201
  | 47=>202
  | 48=>203
  | 49=>204
  | 50=>205
  | 57=>218
  | n=>n,fun n=>match n with
  | 0=>0
  | 3=>3
  | 4=>4
  | 5=>5
  | 9=>9
  | 22=>47
  | 24=>46
  | 25=>119
  | 39=>157
  | 45=>227
  | 46=>228
  | 50=>102
  | 53=>28
  | 55=>234
  | 66=>249
  | 70=>253
  | 76=>262
  | 77=>263
  | n=>n,fun n=>n⟩
theorem layI:Go.Proofs.SlLaysF0.n6 Tryz.prog renI:={
 mixed:=by kernel_rfl
 f6:=⟨Tryz.f86.name,by decide,Tryz.func86.trans (congrArg some (by kernel_rfl))⟩
 f14:=⟨Tryz.f132.name,by decide,Tryz.func132.trans (congrArg some (by kernel_rfl))⟩
 f15:=Tryz.func133.trans (congrArg some (by kernel_rfl))
 f20:=⟨Tryz.f168.name,by decide,Tryz.func168.trans (congrArg some (by kernel_rfl))⟩
 f21:=⟨Tryz.f169.name,by decide,Tryz.func169.trans (congrArg some (by kernel_rfl))⟩
 f22:=⟨Tryz.f170.name,by decide,Tryz.func170.trans (congrArg some (by kernel_rfl))⟩
 f23:=⟨Tryz.f171.name,by decide,Tryz.func171.trans (congrArg some (by kernel_rfl))⟩
 f24:=⟨Tryz.f172.name,by decide,Tryz.func172.trans (congrArg some (by kernel_rfl))⟩
 f25:=⟨Tryz.f173.name,by decide,Tryz.func173.trans (congrArg some (by kernel_rfl))⟩
 f26:=⟨Tryz.f174.name,by decide,Tryz.func174.trans (congrArg some (by kernel_rfl))⟩
 f27:=⟨Tryz.f175.name,by decide,Tryz.func175.trans (congrArg some (by kernel_rfl))⟩
 f28:=Tryz.func176.trans (congrArg some (by kernel_rfl))
 f29:=Tryz.func177.trans (congrArg some (by kernel_rfl))
 f46:=⟨Tryz.f201.name,by decide,Tryz.func201.trans (congrArg some (by kernel_rfl))⟩
 f47:=Tryz.func202.trans (congrArg some (by kernel_rfl))
 f48:=Tryz.func203.trans (congrArg some (by kernel_rfl))
 f49:=⟨Tryz.f204.name,by decide,Tryz.func204.trans (congrArg some (by kernel_rfl))⟩
 f50:=⟨Tryz.f205.name,by decide,Tryz.func205.trans (congrArg some (by kernel_rfl))⟩
 f57:=⟨Tryz.f218.name,by decide,Tryz.func218.trans (congrArg some (by kernel_rfl))⟩
 t0:=Tryz.underlying0
 a0:=Tryz.isAgg0
 z0:=Tryz.sizeOf0
 v0:=Tryz.zeroValue0
 t3:=Tryz.underlying3
 a3:=Tryz.isAgg3
 z3:=Tryz.sizeOf3
 v3:=Tryz.zeroValue3
 t4:=Tryz.underlying4
 a4:=Tryz.isAgg4
 z4:=Tryz.sizeOf4
 v4:=Tryz.zeroValue4
 t5:=Tryz.underlying5
 a5:=Tryz.isAgg5
 z5:=Tryz.sizeOf5
 v5:=Tryz.zeroValue5
 t9:=Tryz.underlying9
 a9:=Tryz.isAgg9
 z9:=Tryz.sizeOf9
 v9:=Tryz.zeroValue9
 t22:=Tryz.underlying47
 a22:=Tryz.isAgg47
 z22:=Tryz.sizeOf47
 v22:=Tryz.zeroValue47
 t25:=Tryz.underlying119
 a25:=Tryz.isAgg119
 z25:=Tryz.sizeOf119
 v25:=Tryz.zeroValue119
 t39:=Tryz.underlying157
 a39:=Tryz.isAgg157
 z39:=Tryz.sizeOf157
 v39:=Tryz.zeroValue157
 t45:=Tryz.underlying227
 a45:=Tryz.isAgg227
 z45:=Tryz.sizeOf227
 v45:=Tryz.zeroValue227
 t46:=Tryz.underlying228
 a46:=Tryz.isAgg228
 z46:=Tryz.sizeOf228
 v46:=Tryz.zeroValue228
 t50:=Tryz.underlying102
 a50:=Tryz.isAgg102
 z50:=Tryz.sizeOf102
 v50:=Tryz.zeroValue102
 t53:=Tryz.underlying28
 a53:=Tryz.isAgg28
 z53:=Tryz.sizeOf28
 v53:=Tryz.zeroValue28
 t55:=Tryz.underlying234
 a55:=Tryz.isAgg234
 z55:=Tryz.sizeOf234
 v55:=Tryz.zeroValue234
 t66:=Tryz.underlying249
 a66:=Tryz.isAgg249
 z66:=Tryz.sizeOf249
 v66:=Tryz.zeroValue249
 t70:=Tryz.underlying253
 a70:=Tryz.isAgg253
 z70:=Tryz.sizeOf253
 v70:=Tryz.zeroValue253
 t76:=Tryz.underlying262
 a76:=Tryz.isAgg262
 z76:=Tryz.sizeOf262
 v76:=Tryz.zeroValue262
 t77:=Tryz.underlying263
 a77:=Tryz.isAgg263
 z77:=Tryz.sizeOf263
 v77:=Tryz.zeroValue263 }
end
end Go.Proofs.YtfaleabndlcanaaGreatDoor
namespace Go.Proofs.YtfaleabndlcanaaGreatDoor
section
open Go Go.AM Go.RowKit Go.Lib Go.Sort
def sortLi (ls:List (List Int)):List (List Int):=ls.mergeSort fun x y=>!(ltOf cmpL) y x
theorem sortLi_perm (l:List (List Int)):(sortLi l).Perm l:=List.mergeSort_perm _ _
theorem sortLi_len (l:List (List Int)):(sortLi l).length=l.length:=(sortLi_perm l).length_eq
theorem swoI:SWO (ltOf cmpL) where
 irrefl x:=by unfold ltOf; exact decide_eq_false (cmpL_irr x)
 trans x y z h g:=by unfold ltOf at *; exact decide_eq_true (cmpL_trans _ _ _ (of_decide_eq_true h) (of_decide_eq_true g))
 ntrans x y z h g:=by unfold ltOf at *; exact decide_eq_false (cmpL_ntrans (of_decide_eq_false h) (of_decide_eq_false g))
theorem totI (x y:List Int) (h:ltOf cmpL x y=false) (g:ltOf cmpL y x=false):x=y:=by
 unfold ltOf at *
 rcases cmpL_tri x y with h1 | h1 | h1
 ·exact absurd h1 (of_decide_eq_false h)
 ·exact h1
 ·exact absurd h1 (of_decide_eq_false g)
theorem sortLi_sorted (l:List (List Int)):(sortLi l).Pairwise fun x y=>¬cmpL y x<0:=by
 have:=List.pairwise_mergeSort (le:=fun x y=>!(ltOf cmpL) y x) (fun a b c h g=>by
  simp only [Bool.not_eq_true',ltOf,decide_eq_false_iff_not] at *
  exact cmpL_ntrans g h) (fun a b=>by
  simp only [Bool.or_eq_true,Bool.not_eq_true',ltOf,decide_eq_false_iff_not]
  by_cases h:cmpL b a<0
  ·right; intro g; exact cmpL_irr a (cmpL_trans _ _ _ g h)
  ·exact .inl h) l
 refine this.imp fun {x y} h=>?_
 simpa [ltOf] using h
def AI (s:AM.St) (f:Bool):Type:={ p:List Int×Value // p.1.length≤1000000∧Rel s (L1 f p.1) p.2 }
instance (s:AM.St) (f:Bool):Inhabited (AI s f):=⟨⟨([],.slice none 0 0),by simp,by
 refine .lst 1 f [] none 0 0 0 (fun _ _=>undef) (Nat.le_refl _) (fun _=>rfl) (fun h=>by simp at h) (by simp) (by simp) (by simp)⟩⟩
theorem AI.sl {s:AM.St} {f:Bool} {k e z:Nat} {xs:List V} (hk:s.H[k]?=some (.buf e z xs false)) (hκ:s.κ k≠0) (a:AI s f):∃A cap,a.1.2 = .slice A a.1.1.length cap ∧
  ∀(i:Nat) (h:i<a.1.1.length),∃b o,A=some ⟨b,o,none⟩∧b≠s.φ k∧b<s.w.heap.size∧s.w.cell? ⟨b,o+i,none⟩=some (.int .i64 a.1.1[i]):=by
 obtain ⟨⟨l,u⟩,hl,hr⟩:=a
 simp only at hl hr ⊢
 simp only [L1] at hr
 generalize hxs:l.map encI=ys at hr
 have hyl:ys.length=l.length:=by rw [←hxs]; simp
 cases hr with
 | lst _ _ _ A cap b off uf hcap hfull hA hz hcell hrel =>
  refine ⟨A,cap,by rw [hyl],fun i hi=>?_⟩
  obtain ⟨rfl,hP⟩:=hA (by omega)
  have hy:ys[i]?=some (encI l[i]):=by rw [←hxs]; simp [hi]
  refine ⟨b,off,rfl,?_,hP.1,?_⟩
  ·intro he
   obtain ⟨e',z',xs',hb⟩:=hP.2.2 k (lvB hk hκ) he.symm
   rw [hk] at hb; cases hb
  ·have h1:=hcell i _ 0 _ hy rfl
   have h2:=hrel i _ 0 _ hy rfl
   rw [Nat.add_zero,Nat.mul_one] at h1
   generalize uf i 0=u at h1 h2
   cases h2
   exact h1
def encAI {s:AM.St} {f:Bool} (a:AI s f):Value:=a.1.2
def cfAI {s:AM.St} {f:Bool} (a b:AI s f):Int:=cmpL a.1.1 b.1.1
theorem permIn_map {α β:Type} [Inhabited α] [Inhabited β] (f:α→β) {n:Nat} {d d':Array α} (hn:d.size=n) (h:PermIn 0 n d d'):PermIn 0 n (d.map f) (d'.map f):=by
 obtain ⟨h1,h2,h3⟩:=h
 refine ⟨by simp [h1],fun i hi=>?_,?_⟩
 ·rw [getElem!_neg _ _ (by simp; omega),getElem!_neg _ _ (by simp; omega)]
 ·have e1:(d.map f).extract 0 n=(d.extract 0 n).map f:=by simp
  have e2:(d'.map f).extract 0 n=(d'.extract 0 n).map f:=by simp
  rw [e1,e2,Array.toList_map,Array.toList_map]
  exact h3.map f
theorem sortedIn_map {α β:Type} [Inhabited α] [Inhabited β] (f:α→β) {lt:β→β→Bool} {n:Nat} {d:Array α} (hn:d.size=n) (h:SortedIn (fun x y=>lt (f x) (f y)) 0 n d):SortedIn lt 0 n (d.map f):=fun i j h1 h2 h3=>by
 have:=h i j h1 h2 h3
 have hj:j<d.size:=by omega
 have hi:i<d.size:=by omega
 rw [getElem!_pos d j hj,getElem!_pos d i hi] at this
 rw [getElem!_pos (d.map f) j (by simpa using hj),getElem!_pos (d.map f) i (by simpa using hi),Array.getElem_map,Array.getElem_map]
 exact this
theorem layI1:SlLaysF.n6 Tryz.prog renI:={ layI with a24:=Tryz.isAgg46,z24:=Tryz.sizeOf46 }
def LBi (H:List B) (k e:Nat) (f:Bool) (ls:List (List Int)):List B:=H.set k (.buf e 1 (ls.map (L1 f)) false)
theorem sortLi_u {H:List B} {k e:Nat} {f:Bool} (ls:List (List Int)) (n:Nat) (hn:ls.length=n) (hk:k<H.length) (hl:n<4611686018427387904) (hls:∀l∈ls,l.length≤1000000) :
  ConH Tryz.prog 86 [.buf k 0 n n,.fn 60 []] (LBi H k e f ls) fun r H'=>r = .tup []∧H'=LBi H k e f (sortLi ls):=by
 subst hn
 have hH:(LBi H k e f ls)[k]?=some (.buf e 1 (ls.map (L1 f)) false):=by unfold LBi; rw [List.getElem?_set_self hk]
 rw [show LBi H k e f (sortLi ls)=(LBi H k e f ls).set k (.buf e 1 ((sortLi ls).map (L1 f)) false) by unfold LBi; rw [List.set_set]]
 generalize LBi H k e f ls=H at hH
 refine ⟨⟨Tryz.f86,Tryz.func86,rfl,rfl⟩,fun s vals hA hg hsz hrel=>?_⟩
 obtain ⟨rfl,hZ⟩:=hA
 obtain ⟨u0,u1,rfl⟩:∃u0 u1,vals = #[u0,u1]:=by
  obtain ⟨l⟩:=vals
  match l,hsz with
  | [a,b],_=>exact ⟨a,b,rfl⟩
 have r0:=hrel 0 _ u0 rfl rfl
 have r1:=hrel 1 _ u1 rfl rfl
 cases r1 with
 | fn _ _ us hul _ =>
 obtain rfl:us = #[]:=Array.eq_empty_of_size_eq_zero (by simpa using hul)
 cases r0 with
 | buf _ _ _ _ e2 z2 xs2 fz2 A n c hk2 ht hh =>
 rw [hH] at hk2
 cases hk2
 obtain ⟨hA,rfl,hcap,_⟩:=hh (by simp)
 rw [Nat.zero_add] at hcap
 by_cases h0:ls=[]
 ·subst h0
  refine (AnyF.slices_SortFunc_none layI A c _ s.w).mono ?_
  rintro e' w' ⟨rfl,rfl⟩
  refine ⟨_,s,.tup [],rfl,rfl,hg,Step.refl s,.tup [] #[] rfl (by simp),rfl,?_⟩
  rw [show sortLi []=[] by simp [sortLi]]
  apply List.ext_getElem?
  intro i
  rw [List.getElem?_set]
  split
  ·rename_i h; subst h; rw [if_pos (getElem?_lt hH),hH]
  ·rfl
 ·have hpos:0<ls.length:=List.length_pos_iff.2 h0
  obtain ⟨vs,g2,g3,g4,g5,g6,g7⟩:=hg.blk k _ hH
  rw [List.length_map] at g4
  have hκ:s.κ k≠0:=by omega
  have hA:=hA hκ
  subst hA
  have g2:=g2 hκ
  have hlt:=(hg.lt k (lvB hH hκ)).1
  have hel:∀i (h:i<ls.length),∃u,vs[i]?=some u∧Rel s (L1 f ls[i]) u:=fun i h=>by
   obtain ⟨u,hu⟩:∃u,vs[i]?=some u:=⟨_,Array.getElem?_eq_getElem (show i<vs.size by omega)⟩
   exact ⟨u,hu,g7 i _ 0 _ u (show (ls.map (L1 f))[i]?=some (L1 f ls[i]) by simp [h]) rfl (by simpa using hu)⟩
  obtain ⟨d,hds,hdl,hdv⟩:∃d:Array (AI s f),d.size=ls.length∧d.map (fun a=>a.1.1)=ls.toArray∧∀i,i<ls.length→vs[i]?=some (encAI d[i]!):=by
   have hx:∀i:Fin ls.length,∃a:AI s f,a.1.1=ls[i]∧vs[i.1]?=some (encAI a):=fun i=>by
    obtain ⟨u,hu,hr⟩:=hel i.1 i.2
    exact ⟨⟨(ls[i],u),hls _ (List.getElem_mem _),hr⟩,rfl,hu⟩
   refine ⟨Array.ofFn fun i=>Classical.choose (hx i),by simp,?_,fun i hi=>?_⟩
   ·apply Array.ext
    ·simp
    ·intro i h1 h2
     simp only [Array.getElem_map,Array.getElem_ofFn]
     have:=(Classical.choose_spec (hx ⟨i,by simpa using h2⟩)).1
     rw [this]; simp
   ·rw [getElem!_pos _ _ (by simpa using hi),Array.getElem_ofFn]
    exact (Classical.choose_spec (hx ⟨i,hi⟩)).2
  have hOne:OneCell (encAI (s:=s) (f:=f)):=fun a=>by
   obtain ⟨A,cap,h1,_⟩:=AI.sl hH hκ a
   unfold encAI
   rw [h1]; rfl
  have hHo:Holds (encAI:AI s f→Value) s.w (s.φ k) (0*1) d:=by
   intro t ht
   rw [hds] at ht
   refine ⟨?_,?_⟩
   ·simp only [World.cell?,g2,Nat.zero_mul,Nat.zero_add]
    simpa using hdv t ht
   ·simp [World.frozen?,g2]
  have hcmp:CmpLays1 Tryz.prog 60 #[] (encAI:AI s f→Value) cfAI (s.φ k) (0*1) d.size s.w:=fun m os dk _ x y=>by
   obtain ⟨A,ca,a1,a2⟩:=AI.sl hH hκ x
   obtain ⟨B,cb,b1,b2⟩:=AI.sl hH hκ y
   have hat:∀(A:Option Addr) (l:List Int),(∀(i:Nat) (h:i<l.length),∃b o,A=some ⟨b,o,none⟩∧b≠s.φ k∧b<s.w.heap.size∧s.w.cell? ⟨b,o+i,none⟩=some (.int .i64 l[i])) →
     AtI (sortWorld (encAI:AI s f→Value) s.w (s.φ k) (0*1) m dk os) A l:=fun A l h i hi=>by
    obtain ⟨b,o,h1,h2,h3,h4⟩:=h i hi
    have hc:∀t,(sortWorld (encAI:AI s f→Value) s.w (s.φ k) (0*1) m dk os).cell? ⟨b,t,none⟩=s.w.cell? ⟨b,t,none⟩:=fun t=>by
     unfold sortWorld
     rw [cell?_grow _ _ _ (by rw [Go.Proofs.size_putRow]; exact h3),cell?_putRow_other _ _ _ _ _ _ (.inl h2)]
     rfl
    refine ⟨b,o,h1,?_,by rw [hc]; exact h4⟩
    unfold sortWorld
    rw [size_grow,Go.Proofs.size_putRow]
    exact Nat.lt_of_lt_of_le h3 (Nat.le_add_right _ _)
   have:=compareIK x.1.1 y.1.1 A B ca cb (sortWorld (encAI:AI s f→Value) s.w (s.φ k) (0*1) m dk os) (hat A _ a2) (hat B _ b2) x.2.1 y.2.1
   rw [←a1,←b1] at this
   exact this
  have hs:=Any.slices_SortFunc layI1 (encAI:AI s f→Value) hOne cfAI ⟨fun x=>swoI.irrefl x.1.1,fun x y z=>swoI.trans x.1.1 y.1.1 z.1.1,fun x y z=>swoI.ntrans x.1.1 y.1.1 z.1.1⟩ 60 #[] (s.φ k) (0*1) c d s.w
   (fun args w=>rfl) hcmp hHo hlt (by rw [hds]; simpa using hl)
  rw [hds] at hs
  refine hs.mono ?_
  rintro e' w' ⟨rfl,d',n,os,hp,hso,hw⟩
  have hp2:=permIn_map (fun a:AI s f=>a.1.1) hds hp
  have hd':d'.size=ls.length:=by rw [hp.1]; exact hds
  have hso2:=sortedIn_map (lt:=ltOf cmpL) (fun a:AI s f=>a.1.1) hd' hso
  rw [hdl] at hp2
  have hu:=sorted_unique_holds swoI totI ls.toArray (d'.map fun a=>a.1.1) (by simpa using hp2) (by simpa using hso2)
  have hys:(sortLi ls).map (L1 f)=d'.toList.map fun a=>L1 f a.1.1:=by
   have:sortLi ls=(d'.map fun a=>a.1.1).toList:=by rw [hu]; simp [sortLi]
   rw [this,Array.toList_map,List.map_map]
   rfl
  have hw2:w'=grow (putRow id (Go.Sort.ahead s.w n) (s.φ k) 0 (d'.map encAI)) os:=by
   rw [hw,Nat.zero_mul]
   unfold sortWorld
   rw [putRow_id]
  rw [hys]
  obtain ⟨f1,f2⟩:=row_turned (ys:=d'.toList.map fun a=>L1 f a.1.1) hg hH hκ (d'.map encAI) n os (by simp [hd']) (by simp [hd'])
   (fun y hy=>by obtain ⟨c,_,rfl⟩:=List.mem_map.1 hy; exact ⟨rfl,by simp [L1,V.cells,V.one]⟩) (fun i y j dd hy hd=>by
    have hil:=getElem?_lt hy
    simp only [List.length_map,Array.length_toList] at hil
    have hj:j=0:=by
     rw [List.getElem?_map,Array.getElem?_toList,Array.getElem?_eq_getElem hil,Option.map_some] at hy
     cases hy
     have:=getElem?_lt hd
     simp [L1,V.cells] at this
     omega
    subst hj
    rw [List.getElem?_map,Array.getElem?_toList,Array.getElem?_eq_getElem hil,Option.map_some] at hy
    cases hy
    have:dd=L1 f d'[i].1.1:=by simpa [L1,V.cells] using hd.symm
    subst this
    rw [Nat.mul_one,Nat.add_zero,getElem!_pos _ _ (by simpa using hil),Array.getElem_map]
    exact d'[i].2.2) w' hw2
  exact ⟨_,_,.tup [],rfl,rfl,f1,f2,.tup [] #[] rfl (by simp),rfl,rfl⟩
end
end Go.Proofs.YtfaleabndlcanaaGreatDoor
namespace Go.Proofs.YtfaleabndlcanaaGreatDoor
section
open Go Go.AM
structure TbC (t:Tb):Prop where
 ids:t.rows.Pairwise fun r s=>r.id<s.id
 pos:∀r∈t.rows,0<r.id
 len:∀r∈t.rows,r.vals.length=t.attrs.length
 val:∀r∈t.rows,r.vals.all validV=true
 wide:t.attrs.length≤16
theorem rowsErr_ok {n:Nat} : ∀{rs:List Rw} {last:Int},rowsErr n last rs=0→(∀r∈rs,last<r.id)∧(rs.Pairwise fun r s=>r.id<s.id)∧(∀r∈rs,r.vals.length=n)∧∀r∈rs,r.vals.all validV=true
 | [],_,_=>by simp
 | r::rs,last,h=>by
  rw [rowsErr] at h
  split at h
  ·cases h
  ·rename_i h1
   split at h
   ·cases h
   ·rename_i h2
    split at h
    ·rename_i h3
     obtain ⟨a,b,c,d⟩:=rowsErr_ok h
     refine ⟨fun x hx=>?_,List.pairwise_cons.2 ⟨a,b⟩,fun x hx=>?_,fun x hx=>?_⟩
     ·rcases List.mem_cons.1 hx with rfl | hx
      ·omega
      ·have:=a x hx; omega
     ·rcases List.mem_cons.1 hx with rfl | hx
      ·simpa using h2
      ·exact c x hx
     ·rcases List.mem_cons.1 hx with rfl | hx
      ·exact h3
      ·exact d x hx
    ·cases h
theorem tbC {t:Tb} (h:validT t=0):TbC t:=by
 unfold validT at h
 split at h
 ·split at h
  ·cases h
  ·rename_i h2
   split at h
   ·obtain ⟨a,b,c,d⟩:=rowsErr_ok h
    exact ⟨b,fun r hr=>a r hr,c,d,by omega⟩
   ·cases h
 ·cases h
def diffN (r l:Nat):Nat:=r &&& (4294967295 - l)
def fdLs (l:Nat):List Nat:=bitsF 32 l
def fdMs (l r:Nat):List Nat:=(bitsF 32 r).filter fun b=>!l.testBit b
def fdV (R:List Rw) (l r:Nat):List (List Int):=(fdMs l r).flatMap fun b=>sortLi (visF (fdDn (fdLs l) b) R 2 [] [])
def cnV (t:Tb) (c:Cn):List (List Int) :=
 if c.kind=1 then fdV t.rows c.fd.l c.fd.r else if c.kind=4 then cfdV c.cfd t.rows else if c.kind=5 then prL (odP c.od) t.rows else sortLi (visF c.dn t.rows c.dn.vars.toNat [] [])
def cnR (t:Tb) (c:Cn):List (List Int) :=
 if c.kind=1 then prL (fdP c.fd.l c.fd.r) t.rows else if c.kind=4 then cfdV c.cfd t.rows else if c.kind=5 then prL (odP c.od) t.rows else (asR t.rows c.dn.vars.toNat).foldl (stR c.dn) []
theorem pow16 {n:Nat} (h:n≤16):(2:Nat)^n≤65536:=by
 have h1:(2:Nat)^n≤2^16:=Nat.pow_le_pow_right (by omega) h
 omega
theorem fd_lt {n:Nat} {d:Fd} (h:fdOk1 n d=true):d.l<2^n∧d.r<2^n:=by
 unfold fdOk1 at h
 have h1:(d.l ||| d.r) / 2^n=0:=by simpa using h
 have h2:(d.l ||| d.r)<2^n:=by
  rcases Nat.div_eq_zero_iff.1 h1 with h | h
  ·have:=Nat.two_pow_pos n; omega
  ·exact h
 exact ⟨Nat.lt_of_le_of_lt Nat.left_le_or h2,Nat.lt_of_le_of_lt Nat.right_le_or h2⟩
theorem fdV_mem {t:Tb} (g:TbC t) {d:Fd} (h:fdOk1 t.attrs.length d=true) {x:List Int} : x∈fdV t.rows d.l d.r↔x∈prL (fdP d.l d.r) t.rows:=by
 obtain ⟨h1,h2⟩:=fd_lt h
 have hp:=pow16 g.wide
 have lt:∀s k,s<2^t.attrs.length→s.testBit k=true→k<32:=fun s k hs hk=>by
  refine Classical.byContradiction fun hc=>?_
  have h16:(2:Nat)^16≤2^k:=Nat.pow_le_pow_right (by omega) (by omega)
  have:s<2^k:=by omega
  rw [Nat.testBit_lt_two_pow this] at hk; cases hk
 rw [←fd_mem (n:=t.attrs.length) (L:=fdLs d.l) (M:=fdMs d.l d.r) g.ids g.len (by have:=g.wide; omega) h1 h2 (fun k=>?_) (fun k=>?_)]
 ·unfold fdV
  rw [List.mem_flatMap]
  constructor
  ·rintro ⟨b,hb,hx⟩
   exact ⟨b,hb,vd_prog.1 ((sortLi_perm _).mem_iff.1 hx)⟩
  ·rintro ⟨b,hb,hx⟩
   exact ⟨b,hb,(sortLi_perm _).mem_iff.2 (vd_prog.2 hx)⟩
 ·unfold fdLs
  rw [bitsF_mem]
  exact ⟨fun h=>h.2,fun h=>⟨lt _ _ h1 h,h⟩⟩
 ·unfold fdMs
  rw [List.mem_filter,bitsF_mem]
  constructor
  ·rintro ⟨⟨_,h3⟩,h4⟩; exact ⟨h3,by simpa using h4⟩
  ·rintro ⟨h3,h4⟩; exact ⟨⟨lt _ _ h2 h3,h3⟩,by simpa using h4⟩
theorem cn_ok {t:Tb} {c:Cn} (h:cnErr t c=0):(c.kind=1∧fdOk1 t.attrs.length c.fd=true)∨(c.kind=4∧cfB t.attrs.length c.cfd=true)∨(c.kind=5∧odB t.attrs.length c.od=true)∨(c.kind=6∧dnB t.attrs.length c.dn=true):=by
 unfold cnErr at h
 split at h
 ·rename_i h0
  rw [Bool.and_eq_true,Bool.and_eq_true,decide_eq_true_eq,decide_eq_true_eq] at h0
  split at h
  ·cases h
  ·split at h
   ·rename_i h1; split at h
    ·rename_i h2; exact .inl ⟨h1,h2⟩
    ·cases h
   ·split at h
    ·rename_i h1; split at h
     ·rename_i h2; exact .inr (.inl ⟨h1,h2⟩)
     ·cases h
    ·split at h
     ·rename_i h1; split at h
      ·rename_i h2; exact .inr (.inr (.inl ⟨h1,h2⟩))
      ·cases h
     ·split at h
      ·rename_i h2; exact .inr (.inr (.inr ⟨by omega,h2⟩))
      ·cases h
 ·cases h
theorem dn_vars {n:Int} {d:Dn} (h:dnB n d=true):1≤d.vars∧d.vars≤3:=by
 unfold dnB at h
 rw [Bool.and_eq_true,Bool.and_eq_true,decide_eq_true_eq,decide_eq_true_eq] at h
 exact ⟨h.1,h.2.1⟩
theorem cn_mem {t:Tb} (g:TbC t) {c:Cn} (h:cnErr t c=0) {x:List Int} : x∈cnV t c↔x∈cnR t c:=by
 unfold cnV cnR
 rcases cn_ok h with ⟨h1,h2⟩ | ⟨h1,h2⟩ | ⟨h1,h2⟩ | ⟨h1,h2⟩
 ·rw [if_pos h1,if_pos h1]; exact fdV_mem g h2
 ·rw [if_neg (by omega),if_pos h1,if_neg (by omega),if_pos h1]
 ·rw [if_neg (by omega),if_neg (by omega),if_pos h1,if_neg (by omega),if_neg (by omega),if_pos h1]
 ·rw [if_neg (by omega),if_neg (by omega),if_neg (by omega),if_neg (by omega),if_neg (by omega),if_neg (by omega),vd_ref,←vd_prog]
  exact (sortLi_perm _).mem_iff
theorem cn_edge {t:Tb} (g:TbC t) {c:Cn} (h:cnErr t c=0) {x:List Int} (hx:x∈cnR t c):EdgL t.rows x:=by
 unfold cnR at hx
 rcases cn_ok h with ⟨h1,h2⟩ | ⟨h1,h2⟩ | ⟨h1,h2⟩ | ⟨h1,h2⟩
 ·rw [if_pos h1] at hx; exact prL_edge g.ids hx
 ·rw [if_neg (by omega),if_pos h1] at hx; exact cfdV_edge g.ids hx
 ·rw [if_neg (by omega),if_neg (by omega),if_pos h1] at hx; exact prL_edge g.ids hx
 ·rw [if_neg (by omega),if_neg (by omega),if_neg (by omega)] at hx
  obtain ⟨h3,h4⟩:=dn_vars h2
  exact (vd_ref.1 hx).edge h3 h4
theorem pow_k {m k:Nat} (h:m≤8) (hk:k≤3):m^k≤512:=by
 have h1:m^k≤8^k:=Nat.pow_le_pow_left h k
 have h2:8^k≤8^3:=Nat.pow_le_pow_right (by omega) hk
 omega
theorem sq8 {m:Nat} (h:m≤8):m*m≤64:=Nat.mul_le_mul h h
theorem flat_len {α:Type} {f:α→List (List Int)} {k:Nat} : ∀l:List α,(∀x∈l,(f x).length≤k)→(l.flatMap f).length≤l.length*k
 | [],_=>by simp
 | x::l,h=>by
  rw [List.flatMap_cons,List.length_append,List.length_cons,Nat.succ_mul]
  have h1:=h x (List.mem_cons_self ..)
  have h2:=flat_len l (fun y hy=>h y (List.mem_cons_of_mem _ hy))
  omega
theorem cnV_len {t:Tb} (hr:t.rows.length≤8) {c:Cn} (h:cnErr t c=0):(cnV t c).length≤4000:=by
 unfold cnV
 rcases cn_ok h with ⟨h1,h2⟩ | ⟨h1,h2⟩ | ⟨h1,h2⟩ | ⟨h1,h2⟩
 ·rw [if_pos h1]
  have h3:=flat_len (f:=fun b=>sortLi (visF (fdDn (fdLs c.fd.l) b) t.rows 2 [] [])) (k:=64) (fdMs c.fd.l c.fd.r) (fun b _=>by
   rw [sortLi_len]
   have:=visF_len (d:=fdDn (fdLs c.fd.l) b) (R:=t.rows) 2 [] []
   rw [Nat.pow_two] at this
   have h5:=sq8 hr
   simp only [List.length_nil] at this
   omega)
  have h4:(fdMs c.fd.l c.fd.r).length≤32:=Nat.le_trans (List.length_filter_le _ _) (bitsF_len _ _)
  unfold fdV
  omega
 ·rw [if_neg (by omega),if_pos h1]
  have:=cfdV_len c.cfd t.rows
  have h5:=sq8 hr
  omega
 ·rw [if_neg (by omega),if_neg (by omega),if_pos h1]
  have:=prL_len (P:=odP c.od) t.rows
  have h5:=sq8 hr
  omega
 ·rw [if_neg (by omega),if_neg (by omega),if_neg (by omega),sortLi_len]
  obtain ⟨h3,h4⟩:=dn_vars h2
  have:=visF_len (d:=c.dn) (R:=t.rows) c.dn.vars.toNat [] []
  have h5:=pow_k (k:=c.dn.vars.toNat) hr (by omega)
  simp only [List.length_nil] at this
  omega
theorem cnR_len {t:Tb} (hr:t.rows.length≤8) {c:Cn} (h:cnErr t c=0):(cnR t c).length≤4000:=by
 unfold cnR
 have h5:=sq8 hr
 rcases cn_ok h with ⟨h1,h2⟩ | ⟨h1,h2⟩ | ⟨h1,h2⟩ | ⟨h1,h2⟩
 ·rw [if_pos h1]
  have:=prL_len (P:=fdP c.fd.l c.fd.r) t.rows
  omega
 ·rw [if_neg (by omega),if_pos h1]
  have:=cfdV_len c.cfd t.rows
  omega
 ·rw [if_neg (by omega),if_neg (by omega),if_pos h1]
  have:=prL_len (P:=odP c.od) t.rows
  omega
 ·rw [if_neg (by omega),if_neg (by omega),if_neg (by omega)]
  obtain ⟨h3,h4⟩:=dn_vars h2
  have h6:=asR_len t.rows c.dn.vars.toNat
  have h7:=pow_k (k:=c.dn.vars.toNat) hr (by omega)
  have key:∀(l:List (List Rw)) (o:List (List Int)),(l.foldl (stR c.dn) o).length≤o.length+l.length:=fun l=>by
   induction l with
   | nil=>intro o; simp
   | cons a l ih =>
    intro o
    rw [List.foldl_cons,List.length_cons]
    have h8:(stR c.dn o a).length≤o.length+1:=by
     unfold stR; split
     ·exact putR_len _ _
     ·omega
    have:=ih (stR c.dn o a)
    omega
  have:=key (asR t.rows c.dn.vars.toNat) []
  simp only [List.length_nil] at this
  omega
def progE (all:List (List Int)):List (List Int):=compL (sortLi (all.filter fun l=>!smK all l))
theorem progE_lex {all:List (List Int)} (hA:∀d∈all,d.Pairwise (· < ·)∧d≠[]∧d.length≤3):LexSet (progE all) (MinM all):=by
 have hs:(sortLi (all.filter fun l=>!smK all l)).Pairwise fun x y=>lexLt y x=false:=(sortLi_sorted _).imp (fun {x y} h=>by
  rw [←Bool.not_eq_true,←cmpL_lt]; exact h)
 have h:=compL_ok hs
 refine ⟨h.ord,fun e=>?_⟩
 show e∈compL _↔_
 rw [h.mem,(sortLi_perm _).mem_iff,List.mem_filter,←sm_min hA,Bool.not_eq_true']
theorem min_congr {a b:List (List Int)} (h:∀x,x∈a↔x∈b) (e:List Int):MinM a e↔MinM b e:=by
 unfold MinM
 rw [h e]
 exact ⟨fun ⟨h1,h2⟩=>⟨h1,fun d hd=>h2 d ((h d).2 hd)⟩,fun ⟨h1,h2⟩=>⟨h1,fun d hd=>h2 d ((h d).1 hd)⟩⟩
def allV (t:Tb) (cs:List Cn):List (List Int):=cs.flatMap (cnV t)
def allR (t:Tb) (cs:List Cn):List (List Int):=cs.flatMap (cnR t)
theorem all_mem {t:Tb} (g:TbC t) {cs:List Cn} (h:∀c∈cs,cnErr t c=0) {x:List Int} : x∈allV t cs↔x∈allR t cs:=by
 unfold allV allR
 rw [List.mem_flatMap,List.mem_flatMap]
 exact ⟨fun ⟨c,h1,h2⟩=>⟨c,h1,(cn_mem g (h c h1)).1 h2⟩,fun ⟨c,h1,h2⟩=>⟨c,h1,(cn_mem g (h c h1)).2 h2⟩⟩
theorem all_edge {t:Tb} (g:TbC t) {cs:List Cn} (h:∀c∈cs,cnErr t c=0) {x:List Int} (hx:x∈allR t cs):EdgL t.rows x:=by
 obtain ⟨c,h1,h2⟩:=List.mem_flatMap.1 hx
 exact cn_edge g (h c h1) h2
theorem edges_same {t:Tb} (g:TbC t) {cs:List Cn} (h:∀c∈cs,cnErr t c=0):progE (allV t cs)=edgesF (allR t cs):=by
 have hm:∀x,x∈allV t cs↔x∈allR t cs:=fun x=>all_mem g h
 have hE:∀d∈allR t cs,EdgL t.rows d:=fun d hd=>all_edge g h hd
 exact (progE_lex fun d hd=>⟨(hE d ((hm d).1 hd)).1,(hE d ((hm d).1 hd)).2.1,(hE d ((hm d).1 hd)).2.2.1⟩).eq (edges_min fun e he=>(hE e he).1) (min_congr hm)
def cnsErr (t:Tb):List Cn→Int
 | []=>0
 | c::cs=>if cnErr t c=0 then cnsErr t cs else cnErr t c
theorem cnsErr_ok {t:Tb} : ∀{cs:List Cn},cnsErr t cs=0→∀c∈cs,cnErr t c=0
 | [],_,c,hc=>by cases hc
 | c::cs,h,c',hc=>by
  rw [cnsErr] at h
  split at h
  ·rename_i h1
   rcases List.mem_cons.1 hc with rfl | hc
   ·exact h1
   ·exact cnsErr_ok h c' hc
  ·rename_i h1; exact absurd h h1
def buildErr (t:Tb) (cs:List Cn):Int:=if validT t=0 then (if 200<t.rows.length then 3 else cnsErr t cs) else validT t
structure Snt where
 lv:Int
 lc:Int
 op:Int
 rv:Int
 rc:Int
structure Rul where
 k:Int
 fd:Fd
 cl:Int
 cr:Int
 cs:List Int
 xs:List Int
 ys:List Int
 nv:Int
 sn:List Snt
def encSnt (s:Snt):V:=.agg [.int .u8 s.lv,.int .u8 s.lc,.int .u8 s.op,.int .u8 s.rv,.int .u8 s.rc]
def encRul (r:Rul):V:=.agg [.int .u8 r.k,.int .u8 (r.fd.l:Int),.int .u8 (r.fd.r:Int),.int .u8 r.cl,.int .u8 r.cr,LU r.cs,LU r.xs,LU r.ys,.int .u8 r.nv,.lst 5 false (r.sn.map encSnt)]
@[simp] theorem encSnt_pure (s:Snt):AM.Pure (encSnt s):=by simp [encSnt]
@[simp] theorem encRul_pure (s:Rul):AM.Pure (encRul s):=by simp [encRul,LU,encU]
@[simp] theorem encRul_oneV (s:Rul):oneV (encRul s)=true:=by simp [encRul,oneV,LU,V.one]
structure SntOk (s:Snt):Prop where
 lv:0≤s.lv∧s.lv<256
 lc:0≤s.lc∧s.lc<256
 op:0≤s.op∧s.op<256
 rv:0≤s.rv∧s.rv<256
 rc:0≤s.rc∧s.rc<256
structure RulOk (r:Rul):Prop where
 k:0≤r.k∧r.k<256
 fd:r.fd.l<256∧r.fd.r<256
 cl:0≤r.cl∧r.cl<256
 cr:0≤r.cr∧r.cr<256
 cs:r.cs.length≤9223372036854775807
 csv:∀c∈r.cs,0≤c∧c<256
 xs:r.xs.length≤9223372036854775807
 xsv:∀c∈r.xs,0≤c∧c<256
 ys:r.ys.length≤9223372036854775807
 ysv:∀c∈r.ys,0≤c∧c<256
 nv:0≤r.nv∧r.nv<256
 sn:r.sn.length≤1048576
 snv:∀s∈r.sn,SntOk s
def cfL (s:Int) (b:Nat) (n:Nat):List Int:=((List.range n).filter fun a=>hasB s a&&!decide (a=b)).map fun a:Nat=>(a:Int)
theorem cfL_succ (s:Int) (b n:Nat):cfL s b (n+1)=if (hasB s n&&!decide (n=b))=true then cfL s b n++[(n:Int)] else cfL s b n:=by
 unfold cfL
 rw [List.range_succ,List.filter_append,List.map_append]
 by_cases h:(hasB s n&&!decide (n=b))=true
 ·rw [if_pos h,List.filter_cons_of_pos (p:=fun a=>hasB s a&&!decide (a=b)) h]; rfl
 ·rw [if_neg h,List.filter_cons_of_neg (p:=fun a=>hasB s a&&!decide (a=b)) h]; simp
theorem cfL_mem {s:Int} {b n:Nat} {x:Int} : x∈cfL s b n↔∃a:Nat,x=(a:Int)∧a<n∧hasB s a=true∧a≠b:=by
 unfold cfL
 rw [List.mem_map]
 constructor
 ·rintro ⟨a,ha,rfl⟩
  obtain ⟨h1,h2⟩:=List.mem_filter.1 ha
  simp only [Bool.and_eq_true,Bool.not_eq_true',decide_eq_false_iff_not] at h2
  exact ⟨a,rfl,List.mem_range.1 h1,h2.1,h2.2⟩
 ·rintro ⟨a,rfl,h1,h2,h3⟩
  exact ⟨a,List.mem_filter.2 ⟨List.mem_range.2 h1,by simp [h2,h3]⟩,rfl⟩
theorem cfL_asc (s:Int) (b n:Nat):(cfL s b n).Pairwise (· < ·):=by
 unfold cfL
 rw [List.pairwise_map]
 exact (List.pairwise_lt_range.filter _).imp fun {x y} h=>by omega
theorem cfL_len (s:Int) (b n:Nat):(cfL s b n).length≤n:=by
 unfold cfL
 rw [List.length_map]
 exact Nat.le_trans (List.length_filter_le _ _) (by simp)
def clOf (cs:List Int) (k:Nat):Cl:=if k<cs.length∧¬(cs.getD k 0).tmod 2=0 then ⟨false,ofC (((cs.getD k 0).tdiv 2).tmod 3)⟩ else ⟨true,zV⟩
def cfP (cs:List Int) (m:Nat):List Cl:=(List.range m).map (clOf cs)
theorem cfP_succ (cs:List Int) (m:Nat):cfP cs (m+1)=cfP cs m++[clOf cs m]:=by simp [cfP,List.range_succ]
theorem cfP_len (cs:List Int) (m:Nat):(cfP cs m).length=m:=by simp [cfP]
def cfR (n:Nat) (b:Int):Nat:=(b.tmod n).toNat
def cfOf (n:Nat) (s b:Int) (cs:List Int):Cfd:=⟨cfL s (cfR n b) n,(cfR n b:Int),cfP cs ((cfL s (cfR n b) n).length+1)⟩
theorem cfR_lt {n:Nat} {b:Int} (hn:0<n) (hb:0≤b):(cfR n b:Int)=b.tmod n∧cfR n b<n:=by
 unfold cfR
 have h1:=Int.tmod_nonneg (n:Int) hb
 have h2:=Int.tmod_lt_of_pos b (show (0:Int)<n by omega)
 omega
theorem asc_of {n r:Int} : ∀{l:List Int} {b:Int},(∀a∈l,b<a)→l.Pairwise (· < ·)→(∀a∈l,a<n∧a≠r)→ascI n r b l=true
 | [],_,_,_,_=>rfl
 | a::l,b,h1,h2,h3=>by
  rw [List.pairwise_cons] at h2
  have a1:=h1 a (List.mem_cons_self ..)
  obtain ⟨a2,a3⟩:=h3 a (List.mem_cons_self ..)
  rw [ascI,asc_of (b:=a) h2.1 h2.2 fun x hx=>h3 x (List.mem_cons_of_mem _ hx)]
  simp [a1,a2,a3]
theorem ofV_val (m:Int):validV (ofV m)=true:=by
 unfold ofV
 repeat' split
 all_goals kernel_rfl
theorem clOf_ok (cs:List Int) (k:Nat):clB (clOf cs k)=true:=by
 unfold clOf
 split
 ·exact ofV_val _
 ·kernel_rfl
theorem cfOf_ok {n:Nat} (hn:0<n) (s b:Int) (hb:0≤b) (cs:List Int):cfB n (cfOf n s b cs)=true:=by
 obtain ⟨h1,h2⟩:=cfR_lt hn hb
 unfold cfB cfOf
 simp only [cfP_len]
 have ha:ascI n (cfR n b:Int) (-1) (cfL s (cfR n b) n)=true:=asc_of (fun a h=>by obtain ⟨k,rfl,_⟩:=cfL_mem.1 h; omega) (cfL_asc _ _ _) fun a h=>by
  obtain ⟨k,rfl,h3,_,h4⟩:=cfL_mem.1 h
  omega
 have hp:(cfP cs ((cfL s (cfR n b) n).length+1)).all clB=true:=by
  rw [List.all_eq_true]
  intro c hc
  obtain ⟨k,_,rfl⟩:=List.mem_map.1 hc
  exact clOf_ok _ _
 rw [ha,hp]
 simp
 omega
def mbF (n:Nat) (l:List Int):List Int:=if n=0 then [] else (l.take 5).map fun x=>x.tmod n
theorem mbF_ok {n:Nat} {l:List Int} (hl:∀c∈l,0≤c∧c<256):olB n (mbF n l)=true:=by
 unfold olB mbF
 split
 ·rfl
 ·rename_i h0
  rw [Bool.and_eq_true,decide_eq_true_eq,List.all_eq_true]
  refine ⟨by simp; omega,fun a ha=>?_⟩
  obtain ⟨c,hc,rfl⟩:=List.mem_map.1 ha
  have h1:=Int.tmod_nonneg (n:Int) (hl c (List.mem_of_mem_take hc)).1
  have h2:=Int.tmod_lt_of_pos c (show (0:Int)<n by omega)
  simp [inB]
  omega
def odOf (n:Nat) (xs ys:List Int):Od:=⟨mbF n xs,mbF n ys⟩
def tmOf (n:Nat) (vars:Int) (v c:Int):Tm:=if v.tmod (vars+1)=0∨n=0 then ⟨0,0,ofC c⟩ else ⟨v.tmod (vars+1),c.tmod n,zV⟩
def atOf (n:Nat) (vars:Int) (s:Snt):At:=⟨tmOf n vars s.lv s.lc,1+s.op.tmod 4,tmOf n vars s.rv s.rc⟩
def dnOf (n:Nat) (nv:Int) (sn:List Snt):Dn:=⟨1+nv.tmod 3,sn.map (atOf n (1+nv.tmod 3))⟩
theorem tmOf_ok {n:Nat} {vars v c:Int} (h1:1≤vars) (hv:0≤v) (hc:0≤c):tmB n vars (tmOf n vars v c)=true:=by
 unfold tmOf
 split
 ·unfold tmB
  rw [if_pos rfl]
  show (decide ((0:Int)=0)&&validV (ofV _))=true
  rw [ofV_val]; rfl
 ·rename_i h
  have a1:=Int.tmod_nonneg (vars+1) hv
  have a2:=Int.tmod_lt_of_pos v (show (0:Int)<vars+1 by omega)
  have b1:=Int.tmod_nonneg (n:Int) hc
  have b2:=Int.tmod_lt_of_pos c (show (0:Int)<n by omega)
  unfold tmB
  rw [if_neg (by show ¬v.tmod (vars+1)=0; omega)]
  show (decide (1≤v.tmod (vars+1))&&(decide (v.tmod (vars+1)≤vars)&&(decide (0≤c.tmod n)&&(decide (c.tmod n<n)&&zeroV zV))))=true
  rw [decide_eq_true (by omega),decide_eq_true (by omega),decide_eq_true (by omega),decide_eq_true (by omega)]
  kernel_rfl
theorem dnOf_ok {n:Nat} {nv:Int} (hv:0≤nv) {sn:List Snt} (h5:sn.length≤5) (hs:∀s∈sn,SntOk s):dnB n (dnOf n nv sn)=true:=by
 have h1:=Int.tmod_nonneg 3 hv
 have h2:=Int.tmod_lt_of_pos nv (show (0:Int)<3 by omega)
 unfold dnB dnOf
 simp only [List.length_map,Bool.and_eq_true,decide_eq_true_eq,List.all_eq_true]
 refine ⟨by omega,by omega,by omega,fun a ha=>?_⟩
 obtain ⟨s,hm,rfl⟩:=List.mem_map.1 ha
 have hk:=hs s hm
 have o1:=Int.tmod_nonneg 4 hk.op.1
 have o2:=Int.tmod_lt_of_pos s.op (show (0:Int)<4 by omega)
 unfold atB atOf
 simp only [Bool.and_eq_true,decide_eq_true_eq]
 exact ⟨by omega,by omega,tmOf_ok (by omega) hk.lv.1 hk.lc.1,tmOf_ok (by omega) hk.rv.1 hk.rc.1⟩
def strR:ByteArray:=⟨#[114]⟩
def strC:ByteArray:=⟨#[99]⟩
def cn0:Cn:=⟨strC,strR,0,⟨0,0⟩,0,0,ByteArray.empty,[],ByteArray.empty,[],⟨[],0,[]⟩,⟨[],[]⟩,⟨0,[]⟩⟩
def cnOf (n:Nat) (r:Rul):Cn :=
 if r.k.tmod 5=1∧0<n then { cn0 with kind:=4,cfd:=cfOf n r.cl r.cr r.cs } else
 if r.k.tmod 5=2 then { cn0 with kind:=5,od:=odOf n r.xs r.ys } else
 if r.k.tmod 5=3 then { cn0 with kind:=6,dn:=dnOf n r.nv r.sn } else
 { cn0 with kind:=1,fd:=fdOf n r.fd }
def cnOk (r:Rul):Bool:=!decide (r.k.tmod 5=3)||decide (r.sn.length≤5)
theorem fullN_lt2:∀n,fullN n<2^n
 | 0=>by simp [fullN]
 | i+1=>Nat.or_lt_two_pow (n:=i+1) (Nat.lt_trans (fullN_lt2 i) (Nat.pow_lt_pow_right (by omega) (by omega))) (Nat.pow_lt_pow_right (by omega) (by omega))
theorem cnOf_ok {t:Tb} (ht:t.name=strR) {r:Rul} (h:RulOk r) (hk:cnOk r=true):cnErr t (cnOf t.attrs.length r)=0:=by
 have hname:∀c:Cn,c.table=strR→(c.table.toList == t.name.toList)=true:=fun c hc=>by rw [hc,ht]; exact beq_self_eq_true _
 unfold cnErr cnOf
 by_cases h1:r.k.tmod 5=1∧0<t.attrs.length
 ·rw [if_pos h1]
  rw [if_pos (by rw [hname _ rfl]; rfl),if_neg (by show ¬((4:Int)=2∨(4:Int)=3); omega),if_neg (by show ¬(4:Int)=1; omega),if_pos rfl]
  exact if_pos (cfOf_ok h1.2 _ _ h.cr.1 _)
 rw [if_neg h1]
 by_cases h2:r.k.tmod 5=2
 ·rw [if_pos h2]
  rw [if_pos (by rw [hname _ rfl]; rfl),if_neg (by show ¬((5:Int)=2∨(5:Int)=3); omega),if_neg (by show ¬(5:Int)=1; omega),if_neg (by show ¬(5:Int)=4; omega),if_pos rfl]
  refine if_pos ?_
  show (olB _ (mbF _ r.xs)&&olB _ (mbF _ r.ys))=true
  rw [mbF_ok h.xsv,mbF_ok h.ysv]; rfl
 rw [if_neg h2]
 by_cases h3:r.k.tmod 5=3
 ·rw [if_pos h3]
  rw [if_pos (by rw [hname _ rfl]; rfl),if_neg (by show ¬((6:Int)=2∨(6:Int)=3); omega),if_neg (by show ¬(6:Int)=1; omega),if_neg (by show ¬(6:Int)=4; omega),if_neg (by show ¬(6:Int)=5; omega)]
  unfold cnOk at hk
  rw [h3] at hk
  exact if_pos (dnOf_ok h.nv.1 (by simpa using hk) h.snv)
 rw [if_neg h3]
 rw [if_pos (by rw [hname _ rfl]; rfl),if_neg (by show ¬((1:Int)=2∨(1:Int)=3); omega),if_pos rfl]
 refine if_pos ?_
 have hf:=fullN_lt2 t.attrs.length
 unfold fdOk1
 rw [decide_eq_true_eq]
 refine Nat.div_eq_of_lt (Nat.or_lt_two_pow ?_ ?_)
 ·exact Nat.lt_of_le_of_lt Nat.and_le_right hf
 ·exact Nat.lt_of_le_of_lt Nat.and_le_right hf
def tbOf (x:Rcp):Tb:=wideT x (x.a.tmod 6).toNat
theorem rowsErr_of {n:Nat} : ∀{rs:List Rw} {last:Int},(∀r∈rs,last<r.id)→(∀r∈rs,r.vals.length=n)→(∀r∈rs,∀v∈r.vals,validV v=true)→rs.Pairwise (fun a b=>a.id<b.id)→rowsErr n last rs=0
 | [],_,_,_,_,_=>rfl
 | r::rs,last,h1,h2,h3,h4=>by
  have a1:=h1 r List.mem_cons_self
  have a2:=h2 r List.mem_cons_self
  have a3:r.vals.all validV=true:=List.all_eq_true.2 (h3 r List.mem_cons_self)
  rw [List.pairwise_cons] at h4
  rw [rowsErr,if_neg (by omega),if_neg (by omega),a3,if_pos rfl]
  exact rowsErr_of h4.1 (fun r' hr=>h2 r' (List.mem_cons_of_mem _ hr)) (fun r' hr=>h3 r' (List.mem_cons_of_mem _ hr)) h4.2
theorem wideT_rows {x:Rcp} {n:Nat} (hg:0≤x.gap):(∀r∈(wideT x n).rows,0<r.id∧r.vals.length=n∧∀v∈r.vals,∃m,v=ofV m)∧(wideT x n).rows.Pairwise fun a b=>a.id<b.id:=by
 have h0:=Int.tmod_nonneg 3 hg
 constructor
 ·intro r hr
  obtain ⟨i,hi,rfl⟩:=List.mem_map.1 hr
  refine ⟨?_,wVals_len _ _,fun v hv=>?_⟩
  ·show 0<1+(i:Int)*(1+x.gap.tmod 3)
   have:=Int.mul_nonneg (show (0:Int)≤i by omega) (show 0≤1+x.gap.tmod 3 by omega)
   omega
  ·obtain ⟨j,_,rfl⟩:=List.mem_map.1 hv
   exact ⟨_,rfl⟩
 ·show ((List.range x.rows.length).map _).Pairwise _
  rw [List.pairwise_map]
  refine List.Pairwise.imp ?_ List.pairwise_lt_range
  intro i j hij
  show 1+(i:Int)*(1+x.gap.tmod 3)<1+(j:Int)*(1+x.gap.tmod 3)
  have:=Int.mul_lt_mul_of_pos_right (show (i:Int)<j by omega) (show 0<1+x.gap.tmod 3 by omega)
  omega
theorem names_few:∀n,n<6→namesB (L8.take n)=true
 | 0,_=>by kernel_rfl
 | 1,_=>by kernel_rfl
 | 2,_=>by kernel_rfl
 | 3,_=>by kernel_rfl
 | 4,_=>by kernel_rfl
 | 5,_=>by kernel_rfl
 | n+6,h=>by omega
theorem ofV_sz (m:Int):(ofV m).s.size≤maxLen:=by
 unfold ofV
 repeat' split
 all_goals decide
theorem tbOf_name (x:Rcp):(tbOf x).name=strR:=rfl
structure RcpOk (x:Rcp):Prop where
 a:0≤x.a∧x.a<256
 gap:0≤x.gap
 rows:x.rows.length≤6
 len:∀r∈x.rows,r.length≤9223372036854775807
theorem tbOf_n {x:Rcp} (h:0≤x.a):(x.a.tmod 6).toNat<6∧(((x.a.tmod 6).toNat:Nat):Int)=x.a.tmod 6:=by
 have h1:=Int.tmod_nonneg 6 h
 have h2:=Int.tmod_lt_of_pos x.a (show (0:Int)<6 by omega)
 omega
theorem list_mapq {α:Type} {enc:α→V} {p:α→Prop} : ∀{xs:List V},(∀x∈xs,∃a,x=enc a∧p a)→∃ys:List α,xs=ys.map enc∧∀y∈ys,p y
 | [],_=>⟨[],rfl,by simp⟩
 | x::xs,h=>by
  obtain ⟨a,rfl,ha⟩:=h x (by simp)
  obtain ⟨ys,rfl,hy⟩:=list_mapq (xs:=xs) (fun y hy=>h y (by simp [hy]))
  exact ⟨a::ys,rfl,fun y hm=>(List.mem_cons.1 hm).elim (fun e=>e▸ha) (hy y)⟩
theorem shq_u8 {n Bd:Nat} {ws:List V} (h:ShB T Bd (n+1) 5 ws):∃m:Int,ws=[.int .u8 m]∧0≤m∧m<256:=by
 simp [ShB] at h
 obtain ⟨m,rfl,hm⟩:=h
 refine ⟨m,rfl,?_⟩
 simp [Lit.wf,IntKind.min,IntKind.max,IntKind.signed,IntKind.bits] at hm
 omega
theorem shq_u32 {n Bd:Nat} {ws:List V} (h:ShB T Bd (n+1) 29 ws):∃m:Nat,ws=[.int .u32 (m:Int)]∧m<4294967296:=by
 simp [ShB] at h
 obtain ⟨m,rfl,hm⟩:=h
 simp [Lit.wf,IntKind.min,IntKind.max,IntKind.signed,IntKind.bits] at hm
 obtain ⟨k,rfl⟩:=Int.eq_ofNat_of_zero_le (show 0≤m by omega)
 exact ⟨k,rfl,by omega⟩
theorem shq_i64 {n Bd:Nat} {ws:List V} (h:ShB T Bd (n+1) 2 ws):∃m:Int,ws=[.int .i64 m]:=by
 simp [ShB] at h
 obtain ⟨m,rfl,hm⟩:=h
 exact ⟨m,rfl⟩
theorem shq_int {n Bd:Nat} {ws:List V} (h:ShB T Bd (n+1) 3 ws):∃m:Int,ws=[.int .i64 m]:=by
 simp [ShB] at h
 obtain ⟨m,rfl,hm⟩:=h
 exact ⟨m,rfl⟩
theorem shq_bool {n Bd:Nat} {ws:List V} (h:ShB T Bd (n+1) 4 ws):∃b:Bool,ws=[.bool b]:=by
 simp [ShB] at h
 rcases h with rfl | rfl
 ·exact ⟨false,rfl⟩
 ·exact ⟨true,rfl⟩
theorem shq_str {n Bd:Nat} {ws:List V} (h:ShB T Bd (n+1) 9 ws):∃s:ByteArray,ws=[.str s]∧s.size≤maxLen:=by
 simp [ShB] at h
 exact h
theorem shq_fld {n Bd t:Nat} {i:TI} {fs:Array Field} {sz:Nat} {ws:List V} (h:ShB T Bd (n+1) t ws) (hT:T t=some i) (hd:i.desc = .struct fs) (hs:i.size=sz):ws.length=sz∧∀(k:Nat) f j,fs[k]?=some f→T f.type=some j→ShB T Bd n f.type ((ws.drop f.offset).take j.size):=by
 rw [ShB] at h
 simp only [hT,hd] at h
 refine ⟨by rw [←hs]; exact h.1,fun k f j hk hj=>?_⟩
 obtain ⟨j',h1,h2⟩:=h.2 f (by rw [Array.mem_toList_iff]; exact Array.mem_of_getElem? hk)
 rw [hj] at h1
 cases h1
 exact h2
theorem shq_lstB {n Bd t e:Nat} {i j:TI} {ws:List V} (h:ShB T Bd (n+1) t ws) (hT:T t=some i) (hd:i.desc = .slice e) (hj:T e=some j):∃xs,ws=[.lst j.size false xs]∧xs.length≤maxLen∧xs.length≤Bd∧∀x∈xs,∃ws,ShB T Bd n e ws∧ws.length=j.size∧x=(if isAggD j.desc then .agg ws else ws.headD .undef):=by
 rw [ShB] at h
 simp only [hT,hd,hj] at h
 exact h
theorem shq_lst {n Bd t e:Nat} {i j:TI} {ws:List V} (h:ShB T Bd (n+1) t ws) (hT:T t=some i) (hd:i.desc = .slice e) (hj:T e=some j):∃xs,ws=[.lst j.size false xs]∧xs.length≤maxLen∧∀x∈xs,∃ws,ShB T Bd n e ws∧ws.length=j.size∧x=(if isAggD j.desc then .agg ws else ws.headD .undef):=by
 obtain ⟨xs,h1,h2,_,h3⟩:=shq_lstB h hT hd hj
 exact ⟨xs,h1,h2,h3⟩
theorem shq_u8s {n Bd:Nat} {ws:List V} (h:ShB T Bd (n+2) 56 ws):∃ns:List Int,ws=[LU ns]∧ns.length≤maxLen∧∀c∈ns,0≤c∧c<256:=by
 obtain ⟨ys,rfl,hl2,hy⟩:=shq_lst h T_56 rfl T_5
 obtain ⟨ns,rfl,hn⟩:∃ns:List Int,ys=ns.map encU∧∀c∈ns,0≤c∧c<256:=list_mapq fun y hym=>by
  obtain ⟨ws,hs,_,rfl⟩:=hy y hym
  obtain ⟨m,rfl,hm⟩:=shq_u8 hs
  exact ⟨m,by simp [isAggD,encU],hm⟩
 exact ⟨ns,by simp [LU],by simpa using hl2,hn⟩
theorem shq_rows {n Bd:Nat} {ws:List V} (h:ShB T Bd (n+3) 68 ws):∃rs:List (List Int),ws=[.lst 1 false (rs.map LU)]∧rs.length≤maxLen∧∀r∈rs,r.length≤maxLen:=by
 obtain ⟨xs,rfl,hl,hx⟩:=shq_lst h T_68 rfl T_56
 obtain ⟨rs,rfl,hr⟩:∃rs:List (List Int),xs=rs.map LU∧∀r∈rs,r.length≤maxLen:=list_mapq fun x hxm=>by
  obtain ⟨ws,hs,_,rfl⟩:=hx x hxm
  obtain ⟨ns,rfl,h1,_⟩:=shq_u8s hs
  exact ⟨ns,by simp [isAggD],h1⟩
 exact ⟨rs,rfl,by simpa using hl,hr⟩
theorem shq_recipe {n Bd:Nat} {ws:List V} (h:ShB T Bd (n+4) 70 ws):∃r:Rcp,ws=[.int .u8 r.a,.int .u8 r.gap,.lst 1 false (r.rows.map LU)]∧(0≤r.a∧r.a<256)∧0≤r.gap∧r.rows.length≤maxLen∧∀x∈r.rows,x.length≤maxLen:=by
 obtain ⟨hlen,hf⟩:=shq_fld h T_70 rfl rfl
 obtain ⟨a,b,c,rfl⟩:∃a b c,ws=[a,b,c]:=by
  match ws,hlen with
  | [a,b,c],_=>exact ⟨a,b,c,rfl⟩
 obtain ⟨m,e1,p1⟩:=shq_u8 (hf 0 _ _ rfl T_5)
 obtain ⟨k,e2,q1,q2⟩:=shq_u8 (hf 1 _ _ rfl T_5)
 obtain ⟨rs,e3,l1,l2⟩:=shq_rows (hf 2 _ _ rfl T_68)
 simp at e1 e2 e3
 subst e1
 subst e2
 subst e3
 exact ⟨⟨m,k,rs⟩,rfl,p1,q1,l1,l2⟩
theorem shq_dep {n Bd:Nat} {ws:List V} (h:ShB T Bd (n+2) 109 ws):∃d:Fd,ws=[.int .u8 (d.l:Int),.int .u8 (d.r:Int)]∧d.l<256∧d.r<256:=by
 obtain ⟨hlen,hf⟩:=shq_fld h T_109 rfl rfl
 obtain ⟨a,b,rfl⟩:∃a b,ws=[a,b]:=by
  match ws,hlen with
  | [a,b],_=>exact ⟨a,b,rfl⟩
 obtain ⟨m,e1,p1,p2⟩:=shq_u8 (hf 0 _ _ rfl T_5)
 obtain ⟨k,e2,q1,q2⟩:=shq_u8 (hf 1 _ _ rfl T_5)
 simp at e1 e2
 subst e1
 subst e2
 refine ⟨⟨m.toNat,k.toNat⟩,?_,by simp only; omega,by simp only; omega⟩
 simp [Int.toNat_of_nonneg p1,Int.toNat_of_nonneg q1]
theorem shq_side {n Bd:Nat} {ws:List V} (h:ShB T Bd (n+2) 210 ws):∃v c:Int,ws=[.int .u8 v,.int .u8 c]∧(0≤v∧v<256)∧(0≤c∧c<256):=by
 obtain ⟨hlen,hf⟩:=shq_fld h T_210 rfl rfl
 obtain ⟨a,b,rfl⟩:∃a b,ws=[a,b]:=by
  match ws,hlen with
  | [a,b],_=>exact ⟨a,b,rfl⟩
 obtain ⟨m,e1,p1⟩:=shq_u8 (hf 0 _ _ rfl T_5)
 obtain ⟨k,e2,q1⟩:=shq_u8 (hf 1 _ _ rfl T_5)
 simp at e1 e2
 subst e1
 subst e2
 exact ⟨m,k,rfl,p1,q1⟩
theorem shq_snt {n Bd:Nat} {ws:List V} (h:ShB T Bd (n+3) 212 ws):∃s:Snt,ws=[.int .u8 s.lv,.int .u8 s.lc,.int .u8 s.op,.int .u8 s.rv,.int .u8 s.rc]∧SntOk s:=by
 obtain ⟨hlen,hf⟩:=shq_fld h T_212 rfl rfl
 obtain ⟨a,b,c,d,e,rfl⟩:∃a b c d e,ws=[a,b,c,d,e]:=by
  match ws,hlen with
  | [a,b,c,d,e],_=>exact ⟨a,b,c,d,e,rfl⟩
 obtain ⟨v,x,e1,p1,p2⟩:=shq_side (show ShB T Bd (n+2) 210 [a,b] from hf 0 _ _ rfl T_210)
 obtain ⟨o,e2,q1⟩:=shq_u8 (hf 1 _ _ rfl T_5)
 obtain ⟨w,y,e3,r1,r2⟩:=shq_side (show ShB T Bd (n+2) 210 [d,e] from hf 2 _ _ rfl T_210)
 simp at e1 e2 e3
 obtain ⟨rfl,rfl⟩:=e1
 obtain ⟨rfl,rfl⟩:=e3
 subst e2
 exact ⟨⟨v,x,o,w,y⟩,rfl,⟨p1,p2,q1,r1,r2⟩⟩
theorem shq_snts {n Bd:Nat} {ws:List V} (h:ShB T Bd (n+4) 114 ws):∃l:List Snt,ws=[.lst 5 false (l.map encSnt)]∧l.length≤Bd∧∀s∈l,SntOk s:=by
 obtain ⟨xs,rfl,_,hl,hx⟩:=shq_lstB h T_114 rfl T_212
 obtain ⟨l,rfl,hs⟩:∃l:List Snt,xs=l.map encSnt∧∀s∈l,SntOk s:=list_mapq fun x hxm=>by
  obtain ⟨ws,hs,_,rfl⟩:=hx x hxm
  obtain ⟨s,rfl,h1⟩:=shq_snt hs
  exact ⟨s,by simp [isAggD,encSnt],h1⟩
 exact ⟨l,rfl,by simpa using hl,hs⟩
theorem shq_rule {n Bd:Nat} (hB:Bd≤1048576) {ws:List V} (h:ShB T Bd (n+6) 118 ws):∃r:Rul,.agg ws=encRul r∧RulOk r:=by
 obtain ⟨hlen,hf⟩:=shq_fld h T_118 rfl rfl
 obtain ⟨a,b,c,d,e,f,g,i,j,k,rfl⟩:∃a b c d e f g i j k,ws=[a,b,c,d,e,f,g,i,j,k]:=by
  match ws,hlen with
  | [a,b,c,d,e,f,g,i,j,k],_=>exact ⟨a,b,c,d,e,f,g,i,j,k,rfl⟩
 obtain ⟨kk,e0,p0⟩:=shq_u8 (hf 0 _ _ rfl T_5)
 obtain ⟨fd,e1,p1⟩:=shq_dep (show ShB T Bd (n+3+2) 109 [b,c] from hf 1 _ _ rfl T_109)
 obtain ⟨_,hc⟩:=shq_fld (show ShB T Bd (n+4+1) 111 [d,e,f] from hf 2 _ _ rfl T_111) T_111 rfl rfl
 obtain ⟨cl,e2,p2⟩:=shq_u8 (hc 0 _ _ rfl T_5)
 obtain ⟨cr,e3,p3⟩:=shq_u8 (hc 1 _ _ rfl T_5)
 obtain ⟨cs,e4,p4,p4'⟩:=shq_u8s (show ShB T Bd (n+2+2) 56 [f] from hc 2 _ _ rfl T_56)
 obtain ⟨_,ho⟩:=shq_fld (show ShB T Bd (n+4+1) 113 [g,i] from hf 3 _ _ rfl T_113) T_113 rfl rfl
 obtain ⟨xs,e5,p5,p5'⟩:=shq_u8s (show ShB T Bd (n+2+2) 56 [g] from ho 0 _ _ rfl T_56)
 obtain ⟨ys,e6,p6,p6'⟩:=shq_u8s (show ShB T Bd (n+2+2) 56 [i] from ho 1 _ _ rfl T_56)
 obtain ⟨_,hd⟩:=shq_fld (show ShB T Bd (n+4+1) 116 [j,k] from hf 4 _ _ rfl T_116) T_116 rfl rfl
 obtain ⟨nv,e7,p7⟩:=shq_u8 (hd 0 _ _ rfl T_5)
 obtain ⟨sn,e8,p8,p8'⟩:=shq_snts (show ShB T Bd (n+4) 114 [k] from hd 1 _ _ rfl T_114)
 simp at e0 e1 e2 e3 e4 e5 e6 e7 e8
 obtain ⟨rfl,rfl⟩:=e1
 subst e0 e2 e3 e4 e5 e6 e7 e8
 exact ⟨⟨kk,fd,cl,cr,cs,xs,ys,nv,sn⟩,rfl,⟨p0,p1,p2,p3,p4,p4',p5,p5',p6,p6',p7,Nat.le_trans p8 hB,p8'⟩⟩
theorem shq_rules {n Bd:Nat} (hB:Bd≤1048576) {ws:List V} (h:ShB T Bd (n+7) 71 ws):∃l:List Rul,ws=[.lst 10 false (l.map encRul)]∧l.length≤1048576∧∀r∈l,RulOk r:=by
 obtain ⟨xs,rfl,_,hl,hx⟩:=shq_lstB h T_71 rfl T_118
 obtain ⟨l,rfl,hs⟩:∃l:List Rul,xs=l.map encRul∧∀r∈l,RulOk r:=list_mapq fun x hxm=>by
  obtain ⟨ws,hs,_,rfl⟩:=hx x hxm
  obtain ⟨r,h1,h2⟩:=shq_rule hB hs
  exact ⟨r,by simpa [isAggD] using h1,h2⟩
 exact ⟨l,rfl,by simp at hl; omega,hs⟩
theorem rcp_agg {r:Rcp} {ws:List V} (h:ws=[.int .u8 r.a,.int .u8 r.gap,.lst 1 false (r.rows.map LU)]) : .agg ws=encRcp false r:=by subst h; rfl
theorem shq_val {n Bd:Nat} {ws:List V} (h:ShB T Bd (n+2) 132 ws):∃v:Vl,ws=[.int .i64 v.k,.int .i64 v.n,.str v.s]∧v.s.size≤maxLen:=by
 obtain ⟨hlen,hf⟩:=shq_fld h T_132 rfl rfl
 obtain ⟨a,b,c,rfl⟩:∃a b c,ws=[a,b,c]:=by
  match ws,hlen with
  | [a,b,c],_=>exact ⟨a,b,c,rfl⟩
 obtain ⟨m,e1⟩:=shq_int (hf 0 _ _ rfl T_3)
 obtain ⟨k,e2⟩:=shq_i64 (hf 1 _ _ rfl T_2)
 obtain ⟨s,e3,h3⟩:=shq_str (hf 2 _ _ rfl T_9)
 simp at e1 e2 e3
 subst e1
 subst e2
 subst e3
 exact ⟨⟨m,k,s⟩,rfl,h3⟩
theorem shq_vals {n Bd:Nat} {ws:List V} (h:ShB T Bd (n+3) 95 ws):∃vs:List Vl,ws=[LV false vs]∧vs.length≤maxLen∧∀v∈vs,v.s.size≤maxLen:=by
 obtain ⟨xs,rfl,hl,hx⟩:=shq_lst h T_95 rfl T_132
 obtain ⟨l,rfl,hs⟩:∃l:List Vl,xs=l.map encV∧∀v∈l,v.s.size≤maxLen:=list_mapq fun x hxm=>by
  obtain ⟨ws,hs,_,rfl⟩:=hx x hxm
  obtain ⟨v,rfl,h1⟩:=shq_val hs
  exact ⟨v,by simp [isAggD,encV],h1⟩
 exact ⟨l,rfl,by simpa using hl,hs⟩
theorem shq_trows {n Bd:Nat} {ws:List V} (h:ShB T Bd (n+5) 23 ws):∃rs:List Rw,ws=[LR false rs]∧rs.length≤maxLen∧∀r∈rs,r.vals.length≤maxLen∧∀v∈r.vals,v.s.size≤maxLen:=by
 obtain ⟨xs,rfl,hl,hx⟩:=shq_lst h T_23 rfl T_97
 obtain ⟨l,rfl,hs⟩:∃l:List Rw,xs=l.map encRw∧∀r∈l,r.vals.length≤maxLen∧∀v∈r.vals,v.s.size≤maxLen:=list_mapq fun x hxm=>by
  obtain ⟨ws,hs,_,rfl⟩:=hx x hxm
  obtain ⟨hlen,hf⟩:=shq_fld hs T_97 rfl rfl
  obtain ⟨a,b,rfl⟩:∃a b,ws=[a,b]:=by
   match ws,hlen with
   | [a,b],_=>exact ⟨a,b,rfl⟩
  obtain ⟨m,e1⟩:=shq_i64 (hf 0 _ _ rfl T_2)
  obtain ⟨vs,e2,h2,h3⟩:=shq_vals (hf 1 _ _ rfl T_95)
  simp at e1 e2
  subst e1
  subst e2
  exact ⟨⟨m,vs⟩,by simp [isAggD,encRw],h2,h3⟩
 exact ⟨l,rfl,by simpa using hl,hs⟩
theorem shq_strs {n Bd:Nat} {ws:List V} (h:ShB T Bd (n+2) 22 ws):∃ss:List ByteArray,ws=[LS false ss]∧ss.length≤maxLen∧∀s∈ss,s.size≤maxLen:=by
 obtain ⟨xs,rfl,hl,hx⟩:=shq_lst h T_22 rfl T_9
 obtain ⟨l,rfl,hs⟩:∃l:List ByteArray,xs=l.map V.str∧∀c∈l,c.size≤maxLen:=list_mapq fun x hxm=>by
  obtain ⟨ws,hs,_,rfl⟩:=hx x hxm
  obtain ⟨s,e1,h1⟩:=shq_str hs
  subst e1
  exact ⟨s,by simp [isAggD],h1⟩
 exact ⟨l,rfl,by simpa using hl,hs⟩
theorem shq_table {n Bd:Nat} {ws:List V} (h:ShB T Bd (n+6) 25 ws):∃t:Tb,.agg ws=encTb false false t∧t.name.size≤maxLen∧(∀s∈t.attrs,s.size≤maxLen)∧∀r∈t.rows,r.vals.length≤maxLen∧∀v∈r.vals,v.s.size≤maxLen:=by
 obtain ⟨hlen,hf⟩:=shq_fld h T_25 rfl rfl
 obtain ⟨a,b,c,rfl⟩:∃a b c,ws=[a,b,c]:=by
  match ws,hlen with
  | [a,b,c],_=>exact ⟨a,b,c,rfl⟩
 obtain ⟨s,e1,p1⟩:=shq_str (hf 0 _ _ rfl T_9)
 obtain ⟨ss,e2,_,p2⟩:=shq_strs (hf 1 _ _ rfl T_22)
 obtain ⟨rs,e3,_,p3⟩:=shq_trows (hf 2 _ _ rfl T_23)
 simp at e1 e2 e3
 subst e1
 subst e2
 subst e3
 exact ⟨⟨s,ss,rs⟩,rfl,p1,p2,p3⟩
theorem shq_ints {n Bd:Nat} {ws:List V} (h:ShB T Bd (n+2) 33 ws):∃xs:List Int,ws=[L1 false xs]∧xs.length≤maxLen:=by
 obtain ⟨xs,rfl,hl,hx⟩:=shq_lst h T_33 rfl T_3
 obtain ⟨l,rfl,_⟩:∃l:List Int,xs=l.map encI∧∀c∈l,True:=list_mapq fun x hxm=>by
  obtain ⟨ws,hs,_,rfl⟩:=hx x hxm
  obtain ⟨s,e1⟩:=shq_int hs
  subst e1
  exact ⟨s,by simp [isAggD,encI],trivial⟩
 exact ⟨l,rfl,by simpa using hl⟩
theorem shq_tm {n Bd:Nat} {ws:List V} (h:ShB T Bd (n+3) 134 ws):∃t:Tm,ws=[.int .i64 t.v,.int .i64 t.a,.int .i64 t.x.k,.int .i64 t.x.n,.str t.x.s]∧t.x.s.size≤maxLen:=by
 obtain ⟨hlen,hf⟩:=shq_fld h T_134 rfl rfl
 obtain ⟨a,b,c,d,e,rfl⟩:∃a b c d e,ws=[a,b,c,d,e]:=by
  match ws,hlen with
  | [a,b,c,d,e],_=>exact ⟨a,b,c,d,e,rfl⟩
 obtain ⟨m,e1⟩:=shq_int (hf 0 _ _ rfl T_3)
 obtain ⟨k,e2⟩:=shq_int (hf 1 _ _ rfl T_3)
 obtain ⟨v,e3,h3⟩:=shq_val (show ShB T Bd (n+2) 132 [c,d,e] from hf 2 _ _ rfl T_132)
 simp at e1 e2 e3
 obtain ⟨rfl,rfl,rfl⟩:=e3
 subst e1 e2
 exact ⟨⟨m,k,v⟩,rfl,h3⟩
theorem shq_atoms {n Bd:Nat} {ws:List V} (h:ShB T Bd (n+5) 41 ws):∃l:List At,ws=[LA false l]∧l.length≤maxLen∧∀a∈l,a.l.x.s.size≤maxLen∧a.r.x.s.size≤maxLen:=by
 obtain ⟨xs,rfl,hl,hx⟩:=shq_lst h T_41 rfl T_137
 obtain ⟨l,rfl,hs⟩:∃l:List At,xs=l.map encAt∧∀a∈l,a.l.x.s.size≤maxLen∧a.r.x.s.size≤maxLen:=list_mapq fun x hxm=>by
  obtain ⟨ws,hs,hlen,rfl⟩:=hx x hxm
  obtain ⟨_,hf⟩:=shq_fld hs T_137 rfl rfl
  obtain ⟨a,b,c,d,e,o,a2,b2,c2,d2,e2,rfl⟩:∃a b c d e o a2 b2 c2 d2 e2,ws=[a,b,c,d,e,o,a2,b2,c2,d2,e2]:=by
   match ws,hlen with
   | [a,b,c,d,e,o,a2,b2,c2,d2,e2],_=>exact ⟨a,b,c,d,e,o,a2,b2,c2,d2,e2,rfl⟩
  obtain ⟨t1,q1,h1⟩:=shq_tm (show ShB T Bd (n+3) 134 [a,b,c,d,e] from hf 0 _ _ rfl T_134)
  obtain ⟨op,q2⟩:=shq_int (hf 1 _ _ rfl T_3)
  obtain ⟨t2,q3,h3⟩:=shq_tm (show ShB T Bd (n+3) 134 [a2,b2,c2,d2,e2] from hf 2 _ _ rfl T_134)
  simp at q1 q2 q3
  obtain ⟨rfl,rfl,rfl,rfl,rfl⟩:=q1
  obtain ⟨rfl,rfl,rfl,rfl,rfl⟩:=q3
  subst q2
  exact ⟨⟨t1,op,t2⟩,by simp [isAggD,encAt],h1,h3⟩
 exact ⟨l,rfl,by simpa using hl,hs⟩
theorem shq_cls {n Bd:Nat} {ws:List V} (h:ShB T Bd (n+4) 36 ws):∃l:List Cl,ws=[LCl false l]∧l.length≤maxLen∧∀c∈l,c.x.s.size≤maxLen:=by
 obtain ⟨xs,rfl,hl,hx⟩:=shq_lst h T_36 rfl T_181
 obtain ⟨l,rfl,hs⟩:∃l:List Cl,xs=l.map encCl∧∀c∈l,c.x.s.size≤maxLen:=list_mapq fun x hxm=>by
  obtain ⟨ws,hs,hlen,rfl⟩:=hx x hxm
  obtain ⟨_,hf⟩:=shq_fld hs T_181 rfl rfl
  obtain ⟨a,b,c,d,rfl⟩:∃a b c d,ws=[a,b,c,d]:=by
   match ws,hlen with
   | [a,b,c,d],_=>exact ⟨a,b,c,d,rfl⟩
  obtain ⟨y,q1⟩:=shq_bool (hf 0 _ _ rfl T_4)
  obtain ⟨v,q2,h2⟩:=shq_val (show ShB T Bd (n+2) 132 [b,c,d] from hf 1 _ _ rfl T_132)
  simp at q1 q2
  obtain ⟨rfl,rfl,rfl⟩:=q2
  subst q1
  exact ⟨⟨y,v⟩,by simp [isAggD,encCl],h2⟩
 exact ⟨l,rfl,by simpa using hl,hs⟩
structure CnSz (c:Cn):Prop where
 p:∀x∈c.cfd.p,x.x.s.size≤maxLen
 a:∀x∈c.dn.atoms,x.l.x.s.size≤maxLen∧x.r.x.s.size≤maxLen
 tab:c.table.size≤maxLen
 fd:c.fd.l<4294967296∧c.fd.r<4294967296
theorem shq_cn {n Bd:Nat} {ws:List V} (h:ShB T Bd (n+7) 45 ws):∃c:Cn,.agg ws=encCn c∧CnSz c:=by
 obtain ⟨hlen,hf⟩:=shq_fld h T_45 rfl rfl
 obtain ⟨x0,x1,x2,x3,x4,x5,x6,x7,x8,x9,x10,x11,x12,x13,x14,x15,x16,x17,rfl⟩:∃x0 x1 x2 x3 x4 x5 x6 x7 x8 x9 x10 x11 x12 x13 x14 x15 x16 x17,ws=[x0,x1,x2,x3,x4,x5,x6,x7,x8,x9,x10,x11,x12,x13,x14,x15,x16,x17]:=by
  match ws,hlen with
  | [x0,x1,x2,x3,x4,x5,x6,x7,x8,x9,x10,x11,x12,x13,x14,x15,x16,x17],_=>exact ⟨x0,x1,x2,x3,x4,x5,x6,x7,x8,x9,x10,x11,x12,x13,x14,x15,x16,x17,rfl⟩
 obtain ⟨nm,e0,_⟩:=shq_str (hf 0 _ _ rfl T_9)
 obtain ⟨tb,e1,g1⟩:=shq_str (hf 1 _ _ rfl T_9)
 obtain ⟨kd,e2⟩:=shq_int (hf 2 _ _ rfl T_3)
 obtain ⟨_,f3⟩:=shq_fld (show ShB T Bd (n+5+1) 31 [x3,x4] from hf 3 _ _ rfl T_31) T_31 rfl rfl
 obtain ⟨fl,e3,g3⟩:=shq_u32 (f3 0 _ _ rfl T_29)
 obtain ⟨fr,e4,g4⟩:=shq_u32 (f3 1 _ _ rfl T_29)
 obtain ⟨_,f5⟩:=shq_fld (show ShB T Bd (n+5+1) 32 [x5,x6] from hf 4 _ _ rfl T_32) T_32 rfl rfl
 obtain ⟨m1,e5,_⟩:=shq_u32 (f5 0 _ _ rfl T_29)
 obtain ⟨m2,e6,_⟩:=shq_u32 (f5 1 _ _ rfl T_29)
 obtain ⟨_,f7⟩:=shq_fld (show ShB T Bd (n+5+1) 35 [x7,x8,x9,x10] from hf 5 _ _ rfl T_35) T_35 rfl rfl
 obtain ⟨i1,e7,_⟩:=shq_str (f7 0 _ _ rfl T_9)
 obtain ⟨i2,e8,_⟩:=shq_ints (show ShB T Bd (n+3+2) 33 [x8] from f7 1 _ _ rfl T_33)
 obtain ⟨i3,e9,_⟩:=shq_str (f7 2 _ _ rfl T_9)
 obtain ⟨i4,e10,_⟩:=shq_ints (show ShB T Bd (n+3+2) 33 [x10] from f7 3 _ _ rfl T_33)
 obtain ⟨_,f11⟩:=shq_fld (show ShB T Bd (n+5+1) 38 [x11,x12,x13] from hf 6 _ _ rfl T_38) T_38 rfl rfl
 obtain ⟨cl,e11,_⟩:=shq_ints (show ShB T Bd (n+3+2) 33 [x11] from f11 0 _ _ rfl T_33)
 obtain ⟨cr,e12⟩:=shq_int (f11 1 _ _ rfl T_3)
 obtain ⟨cp,e13,_,g13⟩:=shq_cls (show ShB T Bd (n+1+4) 36 [x13] from f11 2 _ _ rfl T_36)
 obtain ⟨_,f14⟩:=shq_fld (show ShB T Bd (n+5+1) 40 [x14,x15] from hf 7 _ _ rfl T_40) T_40 rfl rfl
 obtain ⟨ol,e14,_⟩:=shq_ints (show ShB T Bd (n+3+2) 33 [x14] from f14 0 _ _ rfl T_33)
 obtain ⟨or,e15,_⟩:=shq_ints (show ShB T Bd (n+3+2) 33 [x15] from f14 1 _ _ rfl T_33)
 obtain ⟨_,f16⟩:=shq_fld (show ShB T Bd (n+5+1) 43 [x16,x17] from hf 8 _ _ rfl T_43) T_43 rfl rfl
 obtain ⟨dv,e16⟩:=shq_int (f16 0 _ _ rfl T_3)
 obtain ⟨da,e17,_,g17⟩:=shq_atoms (show ShB T Bd (n+5) 41 [x17] from f16 1 _ _ rfl T_41)
 simp at e0 e1 e2 e3 e4 e5 e6 e7 e8 e9 e10 e11 e12 e13 e14 e15 e16 e17
 subst e0 e1 e2 e3 e4 e5 e6 e7 e8 e9 e10 e11 e12 e13 e14 e15 e16 e17
 exact ⟨⟨nm,tb,kd,⟨fl,fr⟩,(m1:Int),(m2:Int),i1,i2,i3,i4,⟨cl,cr,cp⟩,⟨ol,or⟩,⟨dv,da⟩⟩,rfl,⟨g13,g17,g1,g3,g4⟩⟩
theorem shq_cns {n Bd:Nat} {ws:List V} (h:ShB T Bd (n+8) 26 ws):∃l:List Cn,ws=[LCn false l]∧l.length≤maxLen∧∀c∈l,CnSz c:=by
 obtain ⟨xs,rfl,hl,hx⟩:=shq_lst h T_26 rfl T_45
 obtain ⟨l,rfl,hs⟩:∃l:List Cn,xs=l.map encCn∧∀c∈l,CnSz c:=list_mapq fun x hxm=>by
  obtain ⟨ws,hs,_,rfl⟩:=hx x hxm
  obtain ⟨r,h1,h2⟩:=shq_cn hs
  exact ⟨r,by simpa [isAggD] using h1,h2⟩
 exact ⟨l,rfl,by simpa using hl,hs⟩
def ixP {α:Type} (p:α→Bool) (es:List α) (i:Nat):Int:=if h:i<es.length then (if p es[i] then (i:Int) else ixP p es (i+1)) else -1
termination_by es.length - i
theorem ixP_any {α:Type} (p:α→Bool) (es:List α) (i:Nat):decide (0≤ixP p es i)=(es.drop i).any p:=by
 fun_induction ixP p es i with
 | case1 i h h0=>rw [List.drop_eq_getElem_cons h,List.any_cons,h0]; simp
 | case2 i h h0 ih=>rw [List.drop_eq_getElem_cons h,List.any_cons,ih]; simp [h0]
 | case3 i h=>rw [List.drop_of_length_le (by omega)]; rfl
theorem ix_A (H:List B) (fv:V) (p:At→Bool) (es:List At) (g:Bool) (hes:es.length≤1000000) (hH:∀bl∈H,rbB H.length bl) (hfv:rb H.length fv)
  (hp:∀m∈es,WCall Tryz.prog fv [encAt m] H fun r H'=>r = .bool (p m)∧H'=H):ConH Tryz.prog 157 [LA g es,fv] H fun r H'=>r = .int .i64 (ixP p es 0)∧H'=H:=by
 refine conH_of_W tok Tryz.func157 rfl rfl ?_
 refine wx ?_
 simp -implicitDefEqProofs -dsimp [Tryz.f157,List.replicate,LA]
 refine lw_of (W_loopM 19 [4,5,8,9,10,11,12,13,14,15,16,17,18] (by simp [mB]<;>rfl) (σ:=Nat) (fun i=>ixP p es i=ixP p es 0) (fun i=>es.length - i) (fun i=>[(8,.int .i64 i)]) (fun _=>H) 0 rfl (by simp) rfl (by simp) ?_)
 intro i hx N Q hN hQ
 by_cases hb:i<es.length
 ·rw [ixP,dif_pos hb] at hx
  have hc:=hp es[i] (List.getElem_mem hb)
  cases hq:p es[i]
  ·rw [hq] at hc hx
   refine wx ?_
   simp -implicitDefEqProofs -dsimp [hb]
   refine hc.mono ?_
   rintro r H' ⟨rfl,rfl⟩
   simp -implicitDefEqProofs -dsimp [wrapS i (by omega)]
   refine hN (i+1) _ _ (by simpa using hx) (by omega) (by simp) ⟨[],by simp⟩ (by simp; exact hfv) hH
  ·rw [hq] at hc hx
   refine wx ?_
   simp -implicitDefEqProofs -dsimp [hb]
   refine hc.mono ?_
   rintro r H' ⟨rfl,rfl⟩
   simp -implicitDefEqProofs -dsimp []
   refine hQ _ _ _ ?_
   simp -implicitDefEqProofs -dsimp []
   simpa using hx
 ·rw [ixP,dif_neg hb] at hx
  refine wx ?_
  simp -implicitDefEqProofs -dsimp [hb]
  refine hQ _ _ _ ?_
  simp -implicitDefEqProofs -dsimp []
  simpa using hx
theorem cont_A (H:List B) (fv:V) (p:At→Bool) (es:List At) (g:Bool) (hes:es.length≤1000000) (hH:∀bl∈H,rbB H.length bl) (hfv:rb H.length fv)
  (hp:∀m∈es,WCall Tryz.prog fv [encAt m] H fun r H'=>r = .bool (p m)∧H'=H):ConH Tryz.prog 114 [LA g es,fv] H fun r H'=>r = .bool (es.any p)∧H'=H:=by
 have h0:=ixP_any p es 0
 rw [List.drop_zero] at h0
 have hc:=ix_A H fv p es g hes hH hfv hp
 refine conH_of_W tok Tryz.func114 rfl rfl ?_
 refine wx ?_
 simp -implicitDefEqProofs -dsimp [Tryz.f114,List.replicate]
 refine WCall.mono (K:=fun r H'=>r = .int .i64 (ixP p es 0)∧H'=H) hc ?_
 rintro r H' ⟨rfl,rfl⟩
 simp -implicitDefEqProofs -dsimp []
 rw [←h0]
theorem ix_L (H:List B) (fv:V) (p:Cl→Bool) (es:List Cl) (g:Bool) (hes:es.length≤1000000) (hH:∀bl∈H,rbB H.length bl) (hfv:rb H.length fv)
  (hp:∀m∈es,WCall Tryz.prog fv [encCl m] H fun r H'=>r = .bool (p m)∧H'=H):ConH Tryz.prog 158 [LCl g es,fv] H fun r H'=>r = .int .i64 (ixP p es 0)∧H'=H:=by
 refine conH_of_W tok Tryz.func158 rfl rfl ?_
 refine wx ?_
 simp -implicitDefEqProofs -dsimp [Tryz.f158,List.replicate,LCl]
 refine lw_of (W_loopM 19 [4,5,8,9,10,11,12,13,14,15,16,17,18] (by simp [mB]<;>rfl) (σ:=Nat) (fun i=>ixP p es i=ixP p es 0) (fun i=>es.length - i) (fun i=>[(8,.int .i64 i)]) (fun _=>H) 0 rfl (by simp) rfl (by simp) ?_)
 intro i hx N Q hN hQ
 by_cases hb:i<es.length
 ·rw [ixP,dif_pos hb] at hx
  have hc:=hp es[i] (List.getElem_mem hb)
  cases hq:p es[i]
  ·rw [hq] at hc hx
   refine wx ?_
   simp -implicitDefEqProofs -dsimp [hb]
   refine hc.mono ?_
   rintro r H' ⟨rfl,rfl⟩
   simp -implicitDefEqProofs -dsimp [wrapS i (by omega)]
   refine hN (i+1) _ _ (by simpa using hx) (by omega) (by simp) ⟨[],by simp⟩ (by simp; exact hfv) hH
  ·rw [hq] at hc hx
   refine wx ?_
   simp -implicitDefEqProofs -dsimp [hb]
   refine hc.mono ?_
   rintro r H' ⟨rfl,rfl⟩
   simp -implicitDefEqProofs -dsimp []
   refine hQ _ _ _ ?_
   simp -implicitDefEqProofs -dsimp []
   simpa using hx
 ·rw [ixP,dif_neg hb] at hx
  refine wx ?_
  simp -implicitDefEqProofs -dsimp [hb]
  refine hQ _ _ _ ?_
  simp -implicitDefEqProofs -dsimp []
  simpa using hx
theorem cont_L (H:List B) (fv:V) (p:Cl→Bool) (es:List Cl) (g:Bool) (hes:es.length≤1000000) (hH:∀bl∈H,rbB H.length bl) (hfv:rb H.length fv)
  (hp:∀m∈es,WCall Tryz.prog fv [encCl m] H fun r H'=>r = .bool (p m)∧H'=H):ConH Tryz.prog 117 [LCl g es,fv] H fun r H'=>r = .bool (es.any p)∧H'=H:=by
 have h0:=ixP_any p es 0
 rw [List.drop_zero] at h0
 have hc:=ix_L H fv p es g hes hH hfv hp
 refine conH_of_W tok Tryz.func117 rfl rfl ?_
 refine wx ?_
 simp -implicitDefEqProofs -dsimp [Tryz.f117,List.replicate]
 refine WCall.mono (K:=fun r H'=>r = .int .i64 (ixP p es 0)∧H'=H) hc ?_
 rintro r H' ⟨rfl,rfl⟩
 simp -implicitDefEqProofs -dsimp []
 rw [←h0]
theorem ix_I (H:List B) (fv:V) (p:Int→Bool) (es:List Int) (g:Bool) (hes:es.length≤1000000) (hH:∀bl∈H,rbB H.length bl) (hfv:rb H.length fv)
  (hp:∀m∈es,WCall Tryz.prog fv [V.int .i64 m] H fun r H'=>r = .bool (p m)∧H'=H):ConH Tryz.prog 189 [L1 g es,fv] H fun r H'=>r = .int .i64 (ixP p es 0)∧H'=H:=by
 refine conH_of_W tok Tryz.func189 rfl rfl ?_
 refine wx ?_
 simp -implicitDefEqProofs -dsimp [Tryz.f189,List.replicate,L1]
 refine lw_of (W_loopM 19 [4,5,8,9,10,11,12,13,14,15,16,17,18] (by simp [mB]<;>rfl) (σ:=Nat) (fun i=>ixP p es i=ixP p es 0) (fun i=>es.length - i) (fun i=>[(8,.int .i64 i)]) (fun _=>H) 0 rfl (by simp) rfl (by simp) ?_)
 intro i hx N Q hN hQ
 by_cases hb:i<es.length
 ·rw [ixP,dif_pos hb] at hx
  have hc:=hp es[i] (List.getElem_mem hb)
  cases hq:p es[i]
  ·rw [hq] at hc hx
   refine wx ?_
   simp -implicitDefEqProofs -dsimp [hb,encI]
   refine hc.mono ?_
   rintro r H' ⟨rfl,rfl⟩
   simp -implicitDefEqProofs -dsimp [wrapS i (by omega)]
   refine hN (i+1) _ _ (by simpa using hx) (by omega) (by simp) ⟨[],by simp⟩ (by simp; exact hfv) hH
  ·rw [hq] at hc hx
   refine wx ?_
   simp -implicitDefEqProofs -dsimp [hb,encI]
   refine hc.mono ?_
   rintro r H' ⟨rfl,rfl⟩
   simp -implicitDefEqProofs -dsimp []
   refine hQ _ _ _ ?_
   simp -implicitDefEqProofs -dsimp []
   simpa using hx
 ·rw [ixP,dif_neg hb] at hx
  refine wx ?_
  simp -implicitDefEqProofs -dsimp [hb]
  refine hQ _ _ _ ?_
  simp -implicitDefEqProofs -dsimp []
  simpa using hx
theorem cont_I (H:List B) (fv:V) (p:Int→Bool) (es:List Int) (g:Bool) (hes:es.length≤1000000) (hH:∀bl∈H,rbB H.length bl) (hfv:rb H.length fv)
  (hp:∀m∈es,WCall Tryz.prog fv [V.int .i64 m] H fun r H'=>r = .bool (p m)∧H'=H):ConH Tryz.prog 159 [L1 g es,fv] H fun r H'=>r = .bool (es.any p)∧H'=H:=by
 have h0:=ixP_any p es 0
 rw [List.drop_zero] at h0
 have hc:=ix_I H fv p es g hes hH hfv hp
 refine conH_of_W tok Tryz.func159 rfl rfl ?_
 refine wx ?_
 simp -implicitDefEqProofs -dsimp [Tryz.f159,List.replicate]
 refine WCall.mono (K:=fun r H'=>r = .int .i64 (ixP p es 0)∧H'=H) hc ?_
 rintro r H' ⟨rfl,rfl⟩
 simp -implicitDefEqProofs -dsimp []
 rw [←h0]
theorem ix_R (H:List B) (fv:V) (p:Rw→Bool) (es:List Rw) (g:Bool) (hes:es.length≤1000000) (hH:∀bl∈H,rbB H.length bl) (hfv:rb H.length fv)
  (hp:∀m∈es,WCall Tryz.prog fv [encRw m] H fun r H'=>r = .bool (p m)∧H'=H):ConH Tryz.prog 192 [LR g es,fv] H fun r H'=>r = .int .i64 (ixP p es 0)∧H'=H:=by
 refine conH_of_W tok Tryz.func192 rfl rfl ?_
 refine wx ?_
 simp -implicitDefEqProofs -dsimp [Tryz.f192,List.replicate,LR]
 refine lw_of (W_loopM 19 [4,5,8,9,10,11,12,13,14,15,16,17,18] (by simp [mB]<;>rfl) (σ:=Nat) (fun i=>ixP p es i=ixP p es 0) (fun i=>es.length - i) (fun i=>[(8,.int .i64 i)]) (fun _=>H) 0 rfl (by simp) rfl (by simp) ?_)
 intro i hx N Q hN hQ
 by_cases hb:i<es.length
 ·rw [ixP,dif_pos hb] at hx
  have hc:=hp es[i] (List.getElem_mem hb)
  cases hq:p es[i]
  ·rw [hq] at hc hx
   refine wx ?_
   simp -implicitDefEqProofs -dsimp [hb]
   refine hc.mono ?_
   rintro r H' ⟨rfl,rfl⟩
   simp -implicitDefEqProofs -dsimp [wrapS i (by omega)]
   refine hN (i+1) _ _ (by simpa using hx) (by omega) (by simp) ⟨[],by simp⟩ (by simp; exact hfv) hH
  ·rw [hq] at hc hx
   refine wx ?_
   simp -implicitDefEqProofs -dsimp [hb]
   refine hc.mono ?_
   rintro r H' ⟨rfl,rfl⟩
   simp -implicitDefEqProofs -dsimp []
   refine hQ _ _ _ ?_
   simp -implicitDefEqProofs -dsimp []
   simpa using hx
 ·rw [ixP,dif_neg hb] at hx
  refine wx ?_
  simp -implicitDefEqProofs -dsimp [hb]
  refine hQ _ _ _ ?_
  simp -implicitDefEqProofs -dsimp []
  simpa using hx
theorem cont_R (H:List B) (fv:V) (p:Rw→Bool) (es:List Rw) (g:Bool) (hes:es.length≤1000000) (hH:∀bl∈H,rbB H.length bl) (hfv:rb H.length fv)
  (hp:∀m∈es,WCall Tryz.prog fv [encRw m] H fun r H'=>r = .bool (p m)∧H'=H):ConH Tryz.prog 164 [LR g es,fv] H fun r H'=>r = .bool (es.any p)∧H'=H:=by
 have h0:=ixP_any p es 0
 rw [List.drop_zero] at h0
 have hc:=ix_R H fv p es g hes hH hfv hp
 refine conH_of_W tok Tryz.func164 rfl rfl ?_
 refine wx ?_
 simp -implicitDefEqProofs -dsimp [Tryz.f164,List.replicate]
 refine WCall.mono (K:=fun r H'=>r = .int .i64 (ixP p es 0)∧H'=H) hc ?_
 rintro r H' ⟨rfl,rfl⟩
 simp -implicitDefEqProofs -dsimp []
 rw [←h0]
theorem conH_cutE {P:Program} {f:FuncId} {args:List V} {H:List B} {σ:Type} {ok:σ→Prop} {rf:σ→V} {Hf:σ→List B} (h:ConH P f args H fun r H'=>∃x,ok x∧r=rf x∧∃G,H'=Hf x++G) (hl:∀x,ok x→H.length≤(Hf x).length) (hr:∀x,ok x→rb (Hf x).length (rf x)) (hb:∀x,ok x→∀bl∈Hf x,rbB (Hf x).length bl):ConH P f args H fun r H'=>∃x,ok x∧r=rf x∧H'=Hf x:=by
 refine ⟨h.1,fun s vals h1 h2 h3 h4=>(h.2 s vals h1 h2 h3 h4).mono fun e w' ⟨u,s',r,a,b,c,d,e1,x,k1,k2,G,k3⟩=>?_⟩
 subst k2
 exact ⟨u,s'.cut (Hf x),rf x,a,b,cut_good c k3 (hb x k1),cut_step c k3 (Step.refl _) s d (by rw [h1.1]; exact hl x k1),cut_rel k3 e1 (hr x k1),x,k1,rfl,rfl⟩
theorem term18 (n vars:Int) (t:Tm):ConP Tryz.prog 210 [.int .i64 n,.int .i64 vars,encTm t] fun r=>r = .bool (tmB n vars t):=by
 have cv:=valid01 t.x
 simp only [encV] at cv
 unfold tmB zeroV
 by_cases h0:t.v=0
 ·rw [if_pos h0]
  by_cases h1:t.a=0
  ·rw [decide_eq_true h1,Bool.true_and]
   refine conP_of_conH (conH_of_W tok Tryz.func210 rfl rfl ?_)
   refine wx ?_
   simp -implicitDefEqProofs -dsimp [Tryz.f210,List.replicate,encTm,h0,h1]
   refine (callP (cv) (by simp)).mono ?_
   rintro r H' ⟨rfl,rfl⟩
   simp -implicitDefEqProofs -dsimp []
  ·rw [decide_eq_false h1,Bool.false_and]
   refine conP_of_conH (conH_of_W tok Tryz.func210 rfl rfl ?_)
   refine wx ?_
   simp -implicitDefEqProofs -dsimp [Tryz.f210,List.replicate,encTm,h0,h1]
 ·rw [if_neg h0]
  by_cases h1:1≤t.v
  ·rw [decide_eq_true h1,Bool.true_and]
   by_cases h2:t.v≤vars
   ·rw [decide_eq_true h2,Bool.true_and]
    by_cases h3:0≤t.a
    ·rw [decide_eq_true h3,Bool.true_and]
     by_cases h4:t.a<n
     ·rw [decide_eq_true h4,Bool.true_and]
      refine conP_of_conH (conH_of_W tok Tryz.func210 rfl rfl ?_)
      refine wx ?_
      simp -implicitDefEqProofs -dsimp [Tryz.f210,List.replicate,encTm,h0,h1,h2,h3,h4,eqVl]
     ·rw [decide_eq_false h4,Bool.false_and]
      refine conP_of_conH (conH_of_W tok Tryz.func210 rfl rfl ?_)
      refine wx ?_
      simp -implicitDefEqProofs -dsimp [Tryz.f210,List.replicate,encTm,h0,h1,h2,h3,h4]
    ·rw [decide_eq_false h3,Bool.false_and]
     refine conP_of_conH (conH_of_W tok Tryz.func210 rfl rfl ?_)
     refine wx ?_
     simp -implicitDefEqProofs -dsimp [Tryz.f210,List.replicate,encTm,h0,h1,h2,h3]
   ·rw [decide_eq_false h2,Bool.false_and]
    refine conP_of_conH (conH_of_W tok Tryz.func210 rfl rfl ?_)
    refine wx ?_
    simp -implicitDefEqProofs -dsimp [Tryz.f210,List.replicate,encTm,h0,h1,h2]
  ·rw [decide_eq_false h1,Bool.false_and]
   refine conP_of_conH (conH_of_W tok Tryz.func210 rfl rfl ?_)
   refine wx ?_
   simp -implicitDefEqProofs -dsimp [Tryz.f210,List.replicate,encTm,h0,h1]
theorem termValid (n vars:Int) (t:Tm):ConP Tryz.prog 116 [.int .i64 n,.int .i64 vars,encTm t] fun r=>r = .bool (tmB n vars t):=by
 have cv:=validV_con t.x
 simp only [encV] at cv
 unfold tmB zeroV
 by_cases h0:t.v=0
 ·rw [if_pos h0]
  by_cases h1:t.a=0
  ·rw [decide_eq_true h1,Bool.true_and]
   refine conP_of_conH (conH_of_W tok Tryz.func116 rfl rfl ?_)
   refine wx ?_
   simp -implicitDefEqProofs -dsimp [Tryz.f116,List.replicate,encTm,h0,h1]
   refine (callP (cv) (by simp)).mono ?_
   rintro r H' ⟨rfl,rfl⟩
   simp -implicitDefEqProofs -dsimp []
  ·rw [decide_eq_false h1,Bool.false_and]
   refine conP_of_conH (conH_of_W tok Tryz.func116 rfl rfl ?_)
   refine wx ?_
   simp -implicitDefEqProofs -dsimp [Tryz.f116,List.replicate,encTm,h0,h1]
 ·rw [if_neg h0]
  by_cases h1:1≤t.v
  ·rw [decide_eq_true h1,Bool.true_and]
   have h1':0<t.v:=by omega
   by_cases h2:t.v≤vars
   ·rw [decide_eq_true h2,Bool.true_and]
    by_cases h3:0≤t.a
    ·rw [decide_eq_true h3,Bool.true_and]
     by_cases h4:t.a<n
     ·rw [decide_eq_true h4,Bool.true_and]
      refine conP_of_conH (conH_of_W tok Tryz.func116 rfl rfl ?_)
      refine wx ?_
      simp -implicitDefEqProofs -dsimp [Tryz.f116,List.replicate,encTm,h0,h1',h2,h3,h4,eqVl]
     ·rw [decide_eq_false h4,Bool.false_and]
      refine conP_of_conH (conH_of_W tok Tryz.func116 rfl rfl ?_)
      refine wx ?_
      simp -implicitDefEqProofs -dsimp [Tryz.f116,List.replicate,encTm,h0,h1',h2,h3,h4]
    ·rw [decide_eq_false h3,Bool.false_and]
     refine conP_of_conH (conH_of_W tok Tryz.func116 rfl rfl ?_)
     refine wx ?_
     simp -implicitDefEqProofs -dsimp [Tryz.f116,List.replicate,encTm,h0,h1',h2,h3]
   ·rw [decide_eq_false h2,Bool.false_and]
    refine conP_of_conH (conH_of_W tok Tryz.func116 rfl rfl ?_)
    refine wx ?_
    simp -implicitDefEqProofs -dsimp [Tryz.f116,List.replicate,encTm,h0,h1',h2]
  ·rw [decide_eq_false h1,Bool.false_and]
   refine conP_of_conH (conH_of_W tok Tryz.func116 rfl rfl ?_)
   refine wx ?_
   simp -implicitDefEqProofs -dsimp [Tryz.f116,List.replicate,encTm,h0,show ¬0<t.v by omega]
theorem conH_cutZ {P:Program} {f:FuncId} {args:List V} {H Hf:List B} {v:V} (h:ConH P f args H fun r H'=>r=v∧∃G,H'=Hf++G) (hr:rb Hf.length v) (hb:H.length≤Hf.length∧∀bl∈Hf,rbB Hf.length bl):ConH P f args H fun r H'=>r=v∧H'=Hf:=by
 refine (conH_cutE (σ:=Unit) (ok:=fun _=>True) (rf:=fun _=>v) (Hf:=fun _=>Hf) (h.mono fun r H' ⟨a,G,b⟩=>⟨(),trivial,a,G,b⟩) (fun _ _=>hb.1) (fun _ _=>hr) (fun _ _=>hb.2)).mono ?_
 rintro r H' ⟨_,_,a,b⟩
 exact ⟨a,b⟩
theorem valid18 (n:Int) (d:Dn) (f:Bool) (hl:d.atoms.length≤1000000):ConP Tryz.prog 185 [.int .i64 n,encDn f d] fun r=>r = .bool (dnB n d):=by
 unfold dnB
 by_cases h1:1≤d.vars
 ·rw [decide_eq_true h1,Bool.true_and]
  by_cases h2:d.vars≤3
  ·rw [decide_eq_true h2,Bool.true_and]
   by_cases h3:d.atoms.length≤20
   ·rw [decide_eq_true h3,Bool.true_and]
    obtain ⟨E,hE⟩:∃E,E=d.atoms.all (atB n d.vars):=⟨_,rfl⟩
    rw [←hE]
    refine conP_of_conH (conH_of_W tok Tryz.func185 rfl rfl ?_)
    refine wx ?_
    simp -implicitDefEqProofs -dsimp [Tryz.f185,List.replicate,encDn,LA,show ¬d.vars<1 by omega,show ¬3<d.vars by omega,show ¬(20:Int)<d.atoms.length by omega]
    refine lw_of (W_loopM 59 [4,5,6,21,22,23,24,25,26,27,28,29,30,31,32,33,34,35,36,37,38,39,40,41,42,43,44,45,46,47,48,49,50,51,52,53,54,55,56,57,58] (by simp [mB]<;>rfl) (σ:=Nat) (fun i=>(d.atoms.drop i).all (atB n d.vars)=E) (fun i=>d.atoms.length - i) (fun i=>[(5,.int .i64 i)]) (fun _=>[B.cells [.int .i64 d.vars,.lst 11 f (d.atoms.map encAt)]]) 0 (by rw [hE,List.drop_zero]) (by simp) (by simp) (by simp) ?_)
    intro i hx N Q hN hQ
    by_cases hb:i<d.atoms.length
    ·rw [List.drop_eq_getElem_cons hb,List.all_cons] at hx
     obtain ⟨a,ha⟩:∃a,a=d.atoms[i]:=⟨_,rfl⟩
     rw [←ha] at hx
     have c1:=term18 n d.vars a.l
     have c2:=term18 n d.vars a.r
     simp only [encTm] at c1 c2
     by_cases o1:a.op<1
     ·rw [show atB n d.vars a=false by unfold atB; rw [decide_eq_false (by omega)]; rfl,Bool.false_and] at hx
      refine wx ?_
      simp -implicitDefEqProofs -dsimp [hb,ha.symm,encAt,o1]
      refine hQ _ _ _ ?_
      simp -implicitDefEqProofs -dsimp []
      rw [←hx]<;>simp
     ·by_cases o2:4<a.op
      ·rw [show atB n d.vars a=false by unfold atB; rw [decide_eq_true (by omega),decide_eq_false (by omega)]; rfl,Bool.false_and] at hx
       refine wx ?_
       simp -implicitDefEqProofs -dsimp [hb,ha.symm,encAt,o1,o2]
       refine hQ _ _ _ ?_
       simp -implicitDefEqProofs -dsimp []
       rw [←hx]<;>simp
      ·have hat:atB n d.vars a=(tmB n d.vars a.l&&tmB n d.vars a.r):=by unfold atB; rw [decide_eq_true (by omega),decide_eq_true (by omega)]; rfl
       rw [hat] at hx
       cases q1:tmB n d.vars a.l with
       | false =>
        rw [q1] at c1 hx
        refine wx ?_
        simp -implicitDefEqProofs -dsimp [hb,ha.symm,encAt,o1,o2]
        refine (callP (c1) (by simp)).mono ?_
        rintro r H' ⟨rfl,rfl⟩
        simp -implicitDefEqProofs -dsimp []
        refine hQ _ _ _ ?_
        simp -implicitDefEqProofs -dsimp []
        rw [←hx]<;>simp
       | true =>
        rw [q1] at c1 hx
        cases q2:tmB n d.vars a.r with
        | false =>
         rw [q2] at c2 hx
         refine wx ?_
         simp -implicitDefEqProofs -dsimp [hb,ha.symm,encAt,o1,o2]
         refine (callP (c1) (by simp)).mono ?_
         rintro r H' ⟨rfl,rfl⟩
         simp -implicitDefEqProofs -dsimp []
         refine (callP (c2) (by simp)).mono ?_
         rintro r H' ⟨rfl,rfl⟩
         simp -implicitDefEqProofs -dsimp []
         refine hQ _ _ _ ?_
         simp -implicitDefEqProofs -dsimp []
         rw [←hx]<;>simp
        | true =>
         rw [q2] at c2 hx
         refine wx ?_
         simp -implicitDefEqProofs -dsimp [hb,ha.symm,encAt,o1,o2]
         refine (callP (c1) (by simp)).mono ?_
         rintro r H' ⟨rfl,rfl⟩
         simp -implicitDefEqProofs -dsimp []
         refine (callP (c2) (by simp)).mono ?_
         rintro r H' ⟨rfl,rfl⟩
         simp -implicitDefEqProofs -dsimp [wrapS i (by omega)]
         refine hN (i+1) _ _ hx (by omega) (by simp) ⟨_,rfl⟩ (by simp) (by simp)
    ·rw [List.drop_of_length_le (by omega)] at hx
     refine wx ?_
     simp -implicitDefEqProofs -dsimp [hb]
     refine hQ _ _ _ ?_
     simp -implicitDefEqProofs -dsimp []
     simpa using hx
   ·rw [decide_eq_false h3,Bool.false_and]
    refine conP_of_conH (conH_of_W tok Tryz.func185 rfl rfl ?_)
    refine wx ?_
    simp -implicitDefEqProofs -dsimp [Tryz.f185,List.replicate,encDn,LA,show ¬d.vars<1 by omega,show ¬3<d.vars by omega,show (20:Int)<d.atoms.length by omega]
  ·rw [decide_eq_false h2,Bool.false_and]
   refine conP_of_conH (conH_of_W tok Tryz.func185 rfl rfl ?_)
   refine wx ?_
   simp -implicitDefEqProofs -dsimp [Tryz.f185,List.replicate,encDn,LA,show ¬d.vars<1 by omega,show 3<d.vars by omega]
 ·rw [decide_eq_false h1,Bool.false_and]
  refine conP_of_conH (conH_of_W tok Tryz.func185 rfl rfl ?_)
  refine wx ?_
  simp -implicitDefEqProofs -dsimp [Tryz.f185,List.replicate,encDn,LA,show d.vars<1 by omega]
theorem atom_no (n:Int) (d:Dn) (f:Bool) (a:At):∀H:List B,H=[B.cells [.int .i64 n],B.cells [.int .i64 d.vars,LA f d.atoms]]→WCall Tryz.prog (.fn 115 [.ptr 0 0,.ptr 1 0]) [encAt a] H fun r H'=>r = .bool (!atB n d.vars a)∧H'=H:=by
 intro H hH
 have c1:=termValid n d.vars a.l
 have c2:=termValid n d.vars a.r
 simp only [encTm] at c1 c2
 simp only [WCall,List.cons_append,List.nil_append]
 refine conH_cutZ ?_ (by simp [rb,rb1]) (by subst hH; simp [LA])
 subst hH
 simp only [LA]
 by_cases o1:a.op<1
 ·rw [show atB n d.vars a=false by unfold atB; rw [decide_eq_false (by omega)]; rfl]
  refine conH_of_W tok Tryz.func115 rfl rfl ?_
  refine wx ?_
  simp -implicitDefEqProofs -dsimp [Tryz.f115,List.replicate,encAt,LA,o1]
 by_cases o2:4<a.op
 ·rw [show atB n d.vars a=false by unfold atB; rw [decide_eq_true (by omega),decide_eq_false (by omega)]; rfl]
  refine conH_of_W tok Tryz.func115 rfl rfl ?_
  refine wx ?_
  simp -implicitDefEqProofs -dsimp [Tryz.f115,List.replicate,encAt,LA,o1,o2]
 have hat:atB n d.vars a=(tmB n d.vars a.l&&tmB n d.vars a.r):=by unfold atB; rw [decide_eq_true (by omega),decide_eq_true (by omega)]; rfl
 rw [hat]
 cases q1:tmB n d.vars a.l with
 | false =>
  rw [q1] at c1
  refine conH_of_W tok Tryz.func115 rfl rfl ?_
  refine wx ?_
  simp -implicitDefEqProofs -dsimp [Tryz.f115,List.replicate,encAt,LA,o1,o2]
  refine (callP (c1) (by simp)).mono ?_
  rintro r H' ⟨rfl,rfl⟩
  simp -implicitDefEqProofs -dsimp []
 | true =>
  rw [q1] at c1
  refine conH_of_W tok Tryz.func115 rfl rfl ?_
  refine wx ?_
  simp -implicitDefEqProofs -dsimp [Tryz.f115,List.replicate,encAt,LA,o1,o2]
  refine (callP (c1) (by simp)).mono ?_
  rintro r H' ⟨rfl,rfl⟩
  simp -implicitDefEqProofs -dsimp []
  refine (callP (c2) (by simp)).mono ?_
  rintro r H' ⟨rfl,rfl⟩
  simp -implicitDefEqProofs -dsimp []
theorem any_notA {α:Type} (p:α→Bool) (l:List α):(!l.any fun a=>!p a)=l.all p:=by
 induction l with
 | nil=>rfl
 | cons a l ih=>rw [List.any_cons,List.all_cons,←ih]; cases p a<;>simp
theorem validD_u (n:Int) (d:Dn) (f:Bool) (hl:d.atoms.length≤1000000):ConP Tryz.prog 77 [.int .i64 n,encDn f d] fun r=>r = .bool (dnB n d):=by
 unfold dnB
 by_cases h1:1≤d.vars
 case neg =>
  rw [decide_eq_false h1,Bool.false_and]
  refine conP_of_conH (conH_of_W tok Tryz.func77 rfl rfl ?_)
  refine wx ?_
  simp -implicitDefEqProofs -dsimp [Tryz.f77,List.replicate,encDn,LA,show d.vars<1 by omega]
 rw [decide_eq_true h1,Bool.true_and]
 by_cases h2:d.vars≤3
 case neg =>
  rw [decide_eq_false h2,Bool.false_and]
  refine conP_of_conH (conH_of_W tok Tryz.func77 rfl rfl ?_)
  refine wx ?_
  simp -implicitDefEqProofs -dsimp [Tryz.f77,List.replicate,encDn,LA,show ¬d.vars<1 by omega,show 3<d.vars by omega]
 rw [decide_eq_true h2,Bool.true_and]
 by_cases h3:d.atoms.length≤20
 case neg =>
  rw [decide_eq_false h3,Bool.false_and]
  refine conP_of_conH (conH_of_W tok Tryz.func77 rfl rfl ?_)
  refine wx ?_
  simp -implicitDefEqProofs -dsimp [Tryz.f77,List.replicate,encDn,LA,show ¬d.vars<1 by omega,show ¬3<d.vars by omega,show (20:Int)<d.atoms.length by omega]
 rw [decide_eq_true h3,Bool.true_and,←any_notA]
 have hc:=cont_A [B.cells [.int .i64 n],B.cells [.int .i64 d.vars,LA f d.atoms]] (.fn 115 [.ptr 0 0,.ptr 1 0]) (fun a=>!atB n d.vars a) d.atoms f hl (by simp [LA]) (by simp) (fun m _=>atom_no n d f m _ rfl)
 simp only [LA] at hc
 refine conP_of_conH (conH_of_W tok Tryz.func77 rfl rfl ?_)
 refine wx ?_
 simp -implicitDefEqProofs -dsimp [Tryz.f77,List.replicate,encDn,LA,show ¬d.vars<1 by omega,show ¬3<d.vars by omega,show ¬(20:Int)<d.atoms.length by omega]
 refine WCall.mono (K:=fun r H'=>r = .bool (d.atoms.any fun a=>!atB n d.vars a)∧H'=[B.cells [.int .i64 n],B.cells [.int .i64 d.vars,.lst 11 f (d.atoms.map encAt)]]) hc ?_
 rintro r H' ⟨rfl,rfl⟩
 simp -implicitDefEqProofs -dsimp []
def TmOk (rs:List Rw) (t:Tm):Prop:=t.v=0∨∃(k a:Nat) (hk:k<rs.length),t.v=(k:Int)+1∧t.a=(a:Int)∧a<rs[k].vals.length
theorem tmV_at {rs:List Rw} {t:Tm} {k a:Nat} (hk:k<rs.length) (h1:t.v=(k:Int)+1) (h2:t.a=(a:Int)) (h3:a<rs[k].vals.length):tmV rs t=rs[k].vals[a]:=by
 unfold tmV
 rw [if_neg (by omega),h1,h2]
 have e1:((k:Int)+1 - 1).toNat=k:=by omega
 have e2:((a:Int)).toNat=a:=by omega
 rw [e1,e2]
 simp [hk,h3]
theorem wrapM (k:Nat) (h:k<9223372036854775806):IntKind.i64.wrap ((k:Int)+1 - 1)=(k:Int):=by rw [wrap64 (by omega) (by omega)]; omega
theorem of18 (t:Tm) (rs:List Rw) (f:Bool) (h:TmOk rs t) (hl:rs.length≤1000000):ConP Tryz.prog 211 [encTm t,LR f rs] fun r=>r=encV (tmV rs t):=by
 rcases h with h | ⟨k,a,hk,h1,h2,h3⟩
 ·have ht:tmV rs t=t.x:=by simp [tmV,h]
  rw [ht]
  refine conP_of_conH (conH_of_W tok Tryz.func211 rfl rfl ?_)
  refine wx ?_
  simp -implicitDefEqProofs -dsimp [Tryz.f211,List.replicate,encTm,h,encV]
 ·have ht:=tmV_at hk h1 h2 h3
  obtain ⟨r,hr⟩:∃r,r=rs[k]:=⟨_,rfl⟩
  simp only [←hr] at ht h3
  obtain ⟨v,hv⟩:∃v,v=r.vals[a]:=⟨_,rfl⟩
  rw [ht,←hv]
  refine conP_of_conH (conH_of_W tok Tryz.func211 rfl rfl ?_)
  refine wx ?_
  simp -implicitDefEqProofs -dsimp [Tryz.f211,List.replicate,encTm,LR,LV,encRw,encV,h1,h2,show ¬(k:Int)+1=0 by omega,hk,hr.symm,h3,hv.symm,wrapM k (by omega),wrapN k (by omega)]
  refine lw_of (W_drawT tok mixed [11] [] [] (by kernel_rfl) fun C K hC hK=>?_)
  simp -implicitDefEqProofs [encTm,LR,LV,encRw,encV,h1,h2,hk,hr.symm,h3,hv.symm,wrapM k (by omega),wrapN k (by omega)]
  refine hK _ _ ?_
  simp -implicitDefEqProofs -dsimp []
  rfl
theorem get_u (t:Tm) (rs:List Rw) (f:Bool) (h:TmOk rs t) (hl:rs.length≤1000000):ConP Tryz.prog 191 [LR f rs,encTm t] fun r=>r=encV (tmV rs t):=by
 rcases h with h | ⟨k,a,hk,h1,h2,h3⟩
 ·have ht:tmV rs t=t.x:=by simp [tmV,h]
  rw [ht]
  refine conP_of_conH (conH_of_W tok Tryz.func191 rfl rfl ?_)
  refine wx ?_
  simp -implicitDefEqProofs -dsimp [Tryz.f191,List.replicate,encTm,h,encV]
 ·have ht:=tmV_at hk h1 h2 h3
  obtain ⟨r,hr⟩:∃r,r=rs[k]:=⟨_,rfl⟩
  simp only [←hr] at ht h3
  obtain ⟨v,hv⟩:∃v,v=r.vals[a]:=⟨_,rfl⟩
  rw [ht,←hv]
  refine conP_of_conH (conH_of_W tok Tryz.func191 rfl rfl ?_)
  refine wx ?_
  simp -implicitDefEqProofs -dsimp [Tryz.f191,List.replicate,encTm,LR,LV,encRw,encV,h1,h2,show ¬(k:Int)+1=0 by omega,hk,hr.symm,h3,hv.symm,wrapM k (by omega),wrapN k (by omega)]
  refine lw_of (W_drawT tok mixed [11] [] [] (by kernel_rfl) fun C K hC hK=>?_)
  simp -implicitDefEqProofs [encTm,LR,LV,encRw,encV,h1,h2,hk,hr.symm,h3,hv.symm,wrapM k (by omega),wrapN k (by omega)]
  refine hK _ _ ?_
  simp -implicitDefEqProofs -dsimp []
  rfl
structure AtOk (rs:List Rw) (a:At):Prop where
 l:TmOk rs a.l
 r:TmOk rs a.r
 lo:1≤a.op
 hi:a.op≤4
 sz:(tmV rs a.l).s.size≤maxLen
theorem sat18 (a:At) (rs:List Rw) (f:Bool) (h:AtOk rs a) (hl:rs.length≤1000000):ConP Tryz.prog 186 [encAt a,LR f rs] fun r=>r = .bool (atS rs a):=by
 have c1:=of18 a.l rs f h.l hl
 have c2:=of18 a.r rs f h.r hl
 have c3:=compare01 (tmV rs a.l) (tmV rs a.r) h.sz
 simp only [encTm,encV] at c1 c2 c3
 have h1:=h.lo
 have h2:=h.hi
 obtain ⟨q,hq⟩:∃q,q=cmpV (tmV rs a.l) (tmV rs a.r):=⟨_,rfl⟩
 unfold atS
 rw [←hq] at c3 ⊢
 by_cases e1:a.op=1
 ·rw [if_pos e1]
  refine conP_of_conH (conH_of_W tok Tryz.func186 rfl rfl ?_)
  refine wx ?_
  simp -implicitDefEqProofs -dsimp [Tryz.f186,List.replicate,encAt,e1]
  refine .inr ⟨stop_of (by kernel_rfl),?_⟩
  refine cy_of _ (callP (c1) (by simp)) ?_
  simp -implicitDefEqProofs -dsimp []
  refine cy_of _ (callP (c2) (by simp)) ?_
  simp -implicitDefEqProofs -dsimp []
  refine cy_of _ (callP (c3) (by simp)) ?_
  simp -implicitDefEqProofs -dsimp []
  try rfl
 rw [if_neg e1]
 by_cases e2:a.op=2
 ·rw [if_pos e2]
  refine conP_of_conH (conH_of_W tok Tryz.func186 rfl rfl ?_)
  refine wx ?_
  simp -implicitDefEqProofs -dsimp [Tryz.f186,List.replicate,encAt,e2]
  refine .inr ⟨stop_of (by kernel_rfl),?_⟩
  refine cy_of _ (callP (c1) (by simp)) ?_
  simp -implicitDefEqProofs -dsimp []
  refine cy_of _ (callP (c2) (by simp)) ?_
  simp -implicitDefEqProofs -dsimp []
  refine cy_of _ (callP (c3) (by simp)) ?_
  simp -implicitDefEqProofs -dsimp []
  try rfl
 rw [if_neg e2]
 by_cases e3:a.op=3
 ·rw [if_pos e3]
  refine conP_of_conH (conH_of_W tok Tryz.func186 rfl rfl ?_)
  refine wx ?_
  simp -implicitDefEqProofs -dsimp [Tryz.f186,List.replicate,encAt,e3]
  refine .inr ⟨stop_of (by kernel_rfl),?_⟩
  refine cy_of _ (callP (c1) (by simp)) ?_
  simp -implicitDefEqProofs -dsimp []
  refine cy_of _ (callP (c2) (by simp)) ?_
  simp -implicitDefEqProofs -dsimp []
  refine cy_of _ (callP (c3) (by simp)) ?_
  simp -implicitDefEqProofs -dsimp []
 rw [if_neg e3]
 refine conP_of_conH (conH_of_W tok Tryz.func186 rfl rfl ?_)
 refine wx ?_
 simp -implicitDefEqProofs -dsimp [Tryz.f186,List.replicate,encAt,e1,e2,e3]
 refine .inr ⟨stop_of (by kernel_rfl),?_⟩
 refine cy_of _ (callP (c1) (by simp)) ?_
 simp -implicitDefEqProofs -dsimp [e1,e2,e3]
 refine cy_of _ (callP (c2) (by simp)) ?_
 simp -implicitDefEqProofs -dsimp [e1,e2,e3]
 refine cy_of _ (callP (c3) (by simp)) ?_
 simp -implicitDefEqProofs -dsimp [e1,e2,e3]
theorem all18 (d:Dn) (rs:List Rw) (f g:Bool) (h:∀a∈d.atoms,AtOk rs a) (hl:rs.length≤1000000) (ha:d.atoms.length≤1000000):ConP Tryz.prog 147 [encDn f d,LR g rs] fun r=>r = .bool (allS d rs):=by
 obtain ⟨E,hE⟩:∃E,E=allS d rs:=⟨_,rfl⟩
 rw [←hE]
 unfold allS at hE
 refine conP_of_conH (conH_of_W tok Tryz.func147 rfl rfl ?_)
 refine wx ?_
 simp -implicitDefEqProofs -dsimp [Tryz.f147,List.replicate,encDn,LA,LR]
 refine lw_of (W_loopM 21 [4,5,6,7,8,9,10,11,12,13,14,15,16,17,18,19,20] (by simp [mB]<;>rfl) (σ:=Nat) (fun i=>(d.atoms.drop i).all (atS rs)=E) (fun i=>d.atoms.length - i) (fun i=>[(5,.int .i64 i)]) (fun _=>[B.cells [.int .i64 d.vars,.lst 11 f (d.atoms.map encAt)]]) 0 (by rw [hE,List.drop_zero]) (by simp) (by simp) (by simp) ?_)
 intro i hx N Q hN hQ
 by_cases hb:i<d.atoms.length
 ·rw [List.drop_eq_getElem_cons hb,List.all_cons] at hx
  have hk:=h _ (List.getElem_mem hb)
  obtain ⟨a,hae⟩:∃a,a=d.atoms[i]:=⟨_,rfl⟩
  rw [←hae] at hx hk
  have c1:=sat18 a rs g hk hl
  simp only [encAt,LR] at c1
  cases q:atS rs a with
  | false =>
   rw [q] at c1 hx
   refine wx ?_
   simp -implicitDefEqProofs -dsimp [hb,hae.symm,encAt]
   refine (callP (c1) (by simp)).mono ?_
   rintro r H' ⟨rfl,rfl⟩
   simp -implicitDefEqProofs -dsimp []
   refine hQ _ _ _ ?_
   simp -implicitDefEqProofs -dsimp []
   simpa using hx
  | true =>
   rw [q] at c1 hx
   refine wx ?_
   simp -implicitDefEqProofs -dsimp [hb,hae.symm,encAt]
   refine (callP (c1) (by simp)).mono ?_
   rintro r H' ⟨rfl,rfl⟩
   simp -implicitDefEqProofs -dsimp [wrapS i (by omega)]
   refine hN (i+1) _ _ (by simpa using hx) (by omega) (by simp) ⟨_,rfl⟩ (by simp) (by simp)
 ·rw [List.drop_of_length_le (by omega)] at hx
  refine wx ?_
  simp -implicitDefEqProofs -dsimp [hb]
  refine hQ _ _ _ ?_
  simp -implicitDefEqProofs -dsimp []
  simpa using hx
theorem inB_no1 {n a:Int} (h:¬0≤a):inB n a=false:=by simp [inB,h]
theorem inB_no2 {n a:Int} (h:¬a<n):inB n a=false:=by simp [inB,h]
theorem inB_yes {n a:Int} (h:0≤a) (h2:a<n):inB n a=true:=by simp [inB,h,h2]
theorem list17 (n:Int) (l:List Int) (f:Bool) (hl:l.length≤1000000):ConP Tryz.prog 209 [.int .i64 n,L1 f l] fun r=>r = .bool (olB n l):=by
 obtain ⟨E,hE⟩:∃E,E=l.all (inB n):=⟨_,rfl⟩
 unfold olB
 rw [←hE]
 refine conP_of_conH (conH_of_W tok Tryz.func209 rfl rfl ?_)
 refine wx ?_
 simp -implicitDefEqProofs -dsimp [Tryz.f209,List.replicate,L1]
 refine lw_of (W_loopM 25 [4,5,6,7,8,9,10,11,12,13,14,15,16,17,18,19,20,21,22,23,24] (by simp [mB]<;>rfl) (σ:=Nat) (fun i=>(l.drop i).all (inB n)=E) (fun i=>l.length - i) (fun i=>[(5,.int .i64 i)]) (fun _=>[]) 0 (by rw [hE,List.drop_zero]) (by simp) (by simp) (by simp) ?_)
 intro i hx N Q hN hQ
 by_cases hb:i<l.length
 ·rw [List.drop_eq_getElem_cons hb,List.all_cons] at hx
  obtain ⟨a,ha⟩:∃a,a=l[i]:=⟨_,rfl⟩
  rw [←ha] at hx
  by_cases h1:0≤a
  ·by_cases h2:a<n
   ·rw [inB_yes h1 h2] at hx
    refine wx ?_
    simp -implicitDefEqProofs -dsimp [hb,ha.symm,encI,show ¬a<0 by omega,show ¬n≤a by omega,wrapS i (by omega)]
    refine hN (i+1) _ _ (by simpa using hx) (by omega) (by simp) ⟨_,rfl⟩ (by simp [encI]) (by simp)
   ·rw [inB_no2 h2,Bool.false_and] at hx
    refine wx ?_
    simp -implicitDefEqProofs -dsimp [hb,ha.symm,encI,show ¬a<0 by omega,show n≤a by omega]
    refine hQ _ _ _ ?_
    simp -implicitDefEqProofs -dsimp []
    rw [←hx]; simp
  ·rw [inB_no1 h1,Bool.false_and] at hx
   refine wx ?_
   simp -implicitDefEqProofs -dsimp [hb,ha.symm,encI,show a<0 by omega]
   refine hQ _ _ _ ?_
   simp -implicitDefEqProofs -dsimp []
   rw [←hx]; simp
 ·rw [List.drop_of_length_le (by omega),List.all_nil] at hx
  subst hx
  by_cases h8:l.length≤8
  ·refine wx ?_
   simp -implicitDefEqProofs -dsimp [hb]
   refine hQ _ _ _ ?_
   simp -implicitDefEqProofs -dsimp [show (l.length:Int)≤8 by omega]
   simp [h8]
  ·refine wx ?_
   simp -implicitDefEqProofs -dsimp [hb]
   refine hQ _ _ _ ?_
   simp -implicitDefEqProofs -dsimp [show ¬(l.length:Int)≤8 by omega]
   omega
theorem valid17 (n:Int) (d:Od) (f g:Bool) (hl:d.l.length≤1000000) (hr:d.r.length≤1000000):ConP Tryz.prog 183 [.int .i64 n,encOd f g d] fun r=>r = .bool (odB n d):=by
 have c1:=list17 n d.l f hl
 have c2:=list17 n d.r g hr
 unfold odB
 simp only [L1] at c1 c2
 cases h:olB n d.l with
 | false =>
  rw [h] at c1
  refine conP_of_conH (conH_of_W tok Tryz.func183 rfl rfl ?_)
  refine wx ?_
  simp -implicitDefEqProofs -dsimp [Tryz.f183,List.replicate,encOd,L1]
  refine (callP (c1) (by simp)).mono ?_
  rintro r H' ⟨rfl,rfl⟩
  simp -implicitDefEqProofs -dsimp []
 | true =>
  rw [h] at c1
  refine conP_of_conH (conH_of_W tok Tryz.func183 rfl rfl ?_)
  refine wx ?_
  simp -implicitDefEqProofs -dsimp [Tryz.f183,List.replicate,encOd,L1]
  refine (callP (c1) (by simp)).mono ?_
  rintro r H' ⟨rfl,rfl⟩
  simp -implicitDefEqProofs -dsimp []
  refine (callP (c2) (by simp)).mono ?_
  rintro r H' ⟨rfl,rfl⟩
  simp -implicitDefEqProofs -dsimp []
theorem list1_u (n:Int) (a:Int):∀H:List B,H=[B.cells [.int .i64 n]]→WCall Tryz.prog (.fn 160 [.ptr 0 0]) [.int .i64 a] H fun r H'=>r = .bool (!inB n a)∧H'=H:=by
 intro H hH
 subst hH
 simp only [WCall,List.cons_append,List.nil_append]
 by_cases h1:0≤a
 ·by_cases h2:a<n
  ·rw [inB_yes h1 h2]
   refine conH_of_W tok Tryz.func160 rfl rfl ?_
   refine wx ?_
   simp -implicitDefEqProofs -dsimp [Tryz.f160,List.replicate,show ¬a<0 by omega,show ¬n≤a by omega]
  ·rw [inB_no2 h2]
   refine conH_of_W tok Tryz.func160 rfl rfl ?_
   refine wx ?_
   simp -implicitDefEqProofs -dsimp [Tryz.f160,List.replicate,show ¬a<0 by omega,show n≤a by omega]
 ·rw [inB_no1 h1]
  refine conH_of_W tok Tryz.func160 rfl rfl ?_
  refine wx ?_
  simp -implicitDefEqProofs -dsimp [Tryz.f160,List.replicate,show a<0 by omega]
theorem list_u (n:Int) (l:List Int) (f:Bool) (hl:l.length≤1000000):ConP Tryz.prog 119 [.int .i64 n,L1 f l] fun r=>r = .bool (olB n l):=by
 unfold olB
 rw [←any_notA]
 by_cases h8:l.length≤8
 ·have hc:=cont_I [B.cells [.int .i64 n]] (.fn 160 [.ptr 0 0]) (fun a=>!inB n a) l f hl (by simp) (by simp) (fun m _=>list1_u n m _ rfl)
  simp only [L1] at hc
  rw [decide_eq_true h8,Bool.true_and]
  refine conP_of_conH (conH_of_W tok Tryz.func119 rfl rfl ?_)
  refine wx ?_
  simp -implicitDefEqProofs -dsimp [Tryz.f119,List.replicate,L1,show (l.length:Int)≤8 by omega]
  refine WCall.mono (K:=fun r H'=>r = .bool (l.any fun a=>!inB n a)∧H'=[B.cells [.int .i64 n]]) hc ?_
  rintro r H' ⟨rfl,rfl⟩
  simp -implicitDefEqProofs -dsimp []
 ·rw [decide_eq_false h8,Bool.false_and]
  refine conP_of_conH (conH_of_W tok Tryz.func119 rfl rfl ?_)
  refine wx ?_
  simp -implicitDefEqProofs -dsimp [Tryz.f119,List.replicate,L1,show ¬(l.length:Int)≤8 by omega]
theorem validO_u (n:Int) (d:Od) (f g:Bool) (hl:d.l.length≤1000000) (hr:d.r.length≤1000000):ConP Tryz.prog 79 [.int .i64 n,encOd f g d] fun r=>r = .bool (odB n d):=by
 have c1:=list_u n d.l f hl
 have c2:=list_u n d.r g hr
 unfold odB
 simp only [L1] at c1 c2
 cases h:olB n d.l with
 | false =>
  rw [h] at c1
  refine conP_of_conH (conH_of_W tok Tryz.func79 rfl rfl ?_)
  refine wx ?_
  simp -implicitDefEqProofs -dsimp [Tryz.f79,List.replicate,encOd,L1]
  refine (callP (c1) (by simp)).mono ?_
  rintro r H' ⟨rfl,rfl⟩
  simp -implicitDefEqProofs -dsimp []
 | true =>
  rw [h] at c1
  refine conP_of_conH (conH_of_W tok Tryz.func79 rfl rfl ?_)
  refine wx ?_
  simp -implicitDefEqProofs -dsimp [Tryz.f79,List.replicate,encOd,L1]
  refine (callP (c1) (by simp)).mono ?_
  rintro r H' ⟨rfl,rfl⟩
  simp -implicitDefEqProofs -dsimp []
  refine (callP (c2) (by simp)).mono ?_
  rintro r H' ⟨rfl,rfl⟩
  simp -implicitDefEqProofs -dsimp []
def AtsOk (n:Nat) (l:List Int):Prop:=∀a∈l,0≤a∧a<n
theorem ol_ats {n:Nat} {l:List Int} (h:olB n l=true):AtsOk n l:=fun a ha=>by
 unfold olB at h
 rw [Bool.and_eq_true,List.all_eq_true] at h
 have:=h.2 a ha
 simpa [inB] using this
theorem vAt_nat {vs:List Vl} {k:Nat} (h:k<vs.length):vAt vs ((k:Nat):Int).toNat=vs[k]:=by rw [Int.toNat_natCast]; exact vAt_in h
theorem cmp17 (a b:Rw) (l:List Int) (f:Bool) (n:Nat) (ha:a.vals.length=n) (hb:b.vals.length=n) (hl:l.length≤1000000) (ho:AtsOk n l) (hs:∀v∈a.vals,v.s.size≤maxLen):ConP Tryz.prog 184 [encRw a,encRw b,L1 f l] fun r=>r = .int .i64 (cmpO a b l):=by
 obtain ⟨E,hE⟩:∃E,E=cmpO a b l:=⟨_,rfl⟩
 rw [←hE]
 refine conP_of_conH (conH_of_W tok Tryz.func184 rfl rfl ?_)
 refine wx ?_
 simp -implicitDefEqProofs -dsimp [Tryz.f184,List.replicate,L1,encRw,LV]
 refine lw_of (W_loopM 35 [6,7,8,9,10,11,12,13,14,15,16,17,18,19,20,21,22,23,24,25,26,27,28,29,30,31,32,33,34] (by simp [mB]<;>rfl) (σ:=Nat) (fun i=>cmpO a b (l.drop i)=E) (fun i=>l.length - i) (fun i=>[(7,.int .i64 i)]) (fun _=>[B.cells [.int .i64 a.id,.lst 3 false (a.vals.map encV)],B.cells [.int .i64 b.id,.lst 3 false (b.vals.map encV)]]) 0 (by rw [hE,List.drop_zero]) (by simp) (by simp) (by simp) ?_)
 intro i hx N Q hN hQ
 by_cases hi:i<l.length
 ·rw [List.drop_eq_getElem_cons hi,cmpO] at hx
  obtain ⟨h1,h2⟩:=ho _ (List.getElem_mem hi)
  obtain ⟨k,hk⟩:=Int.eq_ofNat_of_zero_le h1
  have hka:k<a.vals.length:=by omega
  have hkb:k<b.vals.length:=by omega
  rw [hk,vAt_nat hka,vAt_nat hkb] at hx
  have hsz:=hs _ (List.getElem_mem hka)
  obtain ⟨x,hxx⟩:∃x,x=a.vals[k]:=⟨_,rfl⟩
  obtain ⟨y,hyy⟩:∃y,y=b.vals[k]:=⟨_,rfl⟩
  rw [←hxx,←hyy] at hx
  rw [←hxx] at hsz
  have c:=compare01 x y hsz
  simp only [encV] at c
  by_cases h0:cmpV x y=0
  ·rw [if_pos h0] at hx
   rw [h0] at c
   refine wx ?_
   simp -implicitDefEqProofs -dsimp [hi,hk,encI,encV,hka,hkb,hxx.symm,hyy.symm]
   refine .inr ⟨stop_of (by kernel_rfl),?_⟩
   refine cy_of _ (callP (c) (by simp)) ?_
   simp -implicitDefEqProofs -dsimp [wrapS i (by omega)]
   refine hN (i+1) _ _ hx (by omega) (by simp) ⟨_,rfl⟩ (by simp [encI]) (by simp)
  ·rw [if_neg h0] at hx
   refine wx ?_
   simp -implicitDefEqProofs -dsimp [hi,hk,encI,encV,hka,hkb,hxx.symm,hyy.symm]
   refine .inr ⟨stop_of (by kernel_rfl),?_⟩
   refine cy_of _ (callP (c) (by simp)) ?_
   simp -implicitDefEqProofs -dsimp [h0]
   refine hQ _ _ _ ?_
   simp -implicitDefEqProofs -dsimp []
   rw [hx]
 ·rw [List.drop_of_length_le (by omega),cmpO] at hx
  refine wx ?_
  simp -implicitDefEqProofs -dsimp [hi]
  refine hQ _ _ _ ?_
  simp -implicitDefEqProofs -dsimp []
  rw [←hx]
theorem cmpO_u (a b:Rw) (l:List Int) (f:Bool) (n:Nat) (ha:a.vals.length=n) (hb:b.vals.length=n) (hl:l.length≤1000000) (ho:AtsOk n l):ConP Tryz.prog 162 [encRw a,encRw b,L1 f l] fun r=>r = .int .i64 (cmpO a b l):=by
 obtain ⟨E,hE⟩:∃E,E=cmpO a b l:=⟨_,rfl⟩
 rw [←hE]
 refine conP_of_conH (conH_of_W tok Tryz.func162 rfl rfl ?_)
 refine wx ?_
 simp -implicitDefEqProofs -dsimp [Tryz.f162,List.replicate,L1,encRw,LV]
 refine lw_of (W_loopM 31 [6,8,9,12,13,14,15,16,17,18,19,20,21,22,23,24,25,26,27,28,29,30] (by simp [mB]<;>rfl) (σ:=Nat) (fun i=>cmpO a b (l.drop i)=E) (fun i=>l.length - i) (fun i=>[(12,.int .i64 i)]) (fun _=>[B.cells [.int .i64 a.id,.lst 3 false (a.vals.map encV)],B.cells [.int .i64 b.id,.lst 3 false (b.vals.map encV)]]) 0 (by rw [hE,List.drop_zero]) (by simp) (by simp) (by simp) ?_)
 intro i hx N Q hN hQ
 by_cases hi:i<l.length
 ·rw [List.drop_eq_getElem_cons hi,cmpO] at hx
  obtain ⟨h1,h2⟩:=ho _ (List.getElem_mem hi)
  obtain ⟨k,hk⟩:=Int.eq_ofNat_of_zero_le h1
  have hka:k<a.vals.length:=by omega
  have hkb:k<b.vals.length:=by omega
  rw [hk,vAt_nat hka,vAt_nat hkb] at hx
  obtain ⟨x,hxx⟩:∃x,x=a.vals[k]:=⟨_,rfl⟩
  obtain ⟨y,hyy⟩:∃y,y=b.vals[k]:=⟨_,rfl⟩
  rw [←hxx,←hyy] at hx
  have c:=valueCompare x y
  simp only [encV] at c
  by_cases h0:cmpV x y=0
  ·rw [if_pos h0] at hx
   rw [h0] at c
   refine wx ?_
   simp -implicitDefEqProofs -dsimp [hi,hk,encI,encV,hka,hkb,hxx.symm,hyy.symm]
   refine .inr ⟨stop_of (by kernel_rfl),?_⟩
   refine cy_of _ (callP (c) (by simp)) ?_
   simp -implicitDefEqProofs -dsimp [wrapS i (by omega)]
   refine hN (i+1) _ _ hx (by omega) (by simp) ⟨_,rfl⟩ (by simp [encI]) (by simp)
  ·rw [if_neg h0] at hx
   refine wx ?_
   simp -implicitDefEqProofs -dsimp [hi,hk,encI,encV,hka,hkb,hxx.symm,hyy.symm]
   refine .inr ⟨stop_of (by kernel_rfl),?_⟩
   refine cy_of _ (callP (c) (by simp)) ?_
   simp -implicitDefEqProofs -dsimp [h0]
   refine hQ _ _ _ ?_
   simp -implicitDefEqProofs -dsimp []
   rw [hx]
 ·rw [List.drop_of_length_le (by omega),cmpO] at hx
  refine wx ?_
  simp -implicitDefEqProofs -dsimp [hi]
  refine hQ _ _ _ ?_
  simp -implicitDefEqProofs -dsimp []
  rw [←hx]
theorem wrapX {p q:Int} (hp : -1≤p∧p≤1) (hq : -1≤q∧q≤1):IntKind.i64.wrap (p*q)=p*q:=by
 have : -1≤p*q∧p*q≤1:=by
  obtain rfl | rfl | rfl:p = -1∨p=0∨p=1:=by omega
  ·omega
  ·omega
  ·omega
 exact wrap64 (by omega) (by omega)
theorem kind17 (a b:Rw) (d:Od) (f g:Bool) (n:Nat) (ha:a.vals.length=n) (hb:b.vals.length=n) (hl:d.l.length≤1000000) (hr:d.r.length≤1000000) (h1:AtsOk n d.l) (h2:AtsOk n d.r) (hs:∀v∈a.vals,v.s.size≤maxLen):ConP Tryz.prog 144 [encRw a,encRw b,encOd f g d] fun r=>r = .int .i64 (kindO d a b):=by
 have c1:=cmp17 a b d.l f n ha hb hl h1 hs
 have c2:=cmp17 a b d.r g n ha hb hr h2 hs
 have w:=wrapX (cmpO_rng a b d.l) (cmpO_rng a b d.r)
 unfold kindO
 obtain ⟨p,hp⟩:∃p,p=cmpO a b d.l:=⟨_,rfl⟩
 obtain ⟨q,hq⟩:∃q,q=cmpO a b d.r:=⟨_,rfl⟩
 rw [←hp] at c1 w ⊢
 rw [←hq] at c2 w ⊢
 simp only [L1,encRw,LV] at c1 c2
 by_cases h3:p=0
 ·by_cases h4:q=0
  ·rw [if_neg (by simp [h4]),if_neg (by rw [h3]; omega)]
   refine conP_of_conH (conH_of_W tok Tryz.func144 rfl rfl ?_)
   refine wx ?_
   simp -implicitDefEqProofs -dsimp [Tryz.f144,List.replicate,L1,encRw,LV,encOd]
   refine .inr ⟨stop_of (by kernel_rfl),?_⟩
   refine cy_of _ (callP (c1) (by simp)) ?_
   simp -implicitDefEqProofs -dsimp []
   refine cy_of _ (callP (c2) (by simp)) ?_
   simp -implicitDefEqProofs -dsimp [h3,h4,w,show IntKind.i64.wrap (0:Int)=0 from wrap64 (by omega) (by omega)]
  ·rw [if_pos ⟨h3,h4⟩]
   refine conP_of_conH (conH_of_W tok Tryz.func144 rfl rfl ?_)
   refine wx ?_
   simp -implicitDefEqProofs -dsimp [Tryz.f144,List.replicate,L1,encRw,LV,encOd]
   refine .inr ⟨stop_of (by kernel_rfl),?_⟩
   refine cy_of _ (callP (c1) (by simp)) ?_
   simp -implicitDefEqProofs -dsimp []
   refine cy_of _ (callP (c2) (by simp)) ?_
   simp -implicitDefEqProofs -dsimp [h3,h4]
 ·rw [if_neg (fun h=>h3 h.1)]
  by_cases h5:p*q<0
  ·rw [if_pos h5]
   refine conP_of_conH (conH_of_W tok Tryz.func144 rfl rfl ?_)
   refine wx ?_
   simp -implicitDefEqProofs -dsimp [Tryz.f144,List.replicate,L1,encRw,LV,encOd]
   refine .inr ⟨stop_of (by kernel_rfl),?_⟩
   refine cy_of _ (callP (c1) (by simp)) ?_
   simp -implicitDefEqProofs -dsimp []
   refine cy_of _ (callP (c2) (by simp)) ?_
   simp -implicitDefEqProofs -dsimp [h3,w,h5]
  ·rw [if_neg h5]
   refine conP_of_conH (conH_of_W tok Tryz.func144 rfl rfl ?_)
   refine wx ?_
   simp -implicitDefEqProofs -dsimp [Tryz.f144,List.replicate,L1,encRw,LV,encOd]
   refine .inr ⟨stop_of (by kernel_rfl),?_⟩
   refine cy_of _ (callP (c1) (by simp)) ?_
   simp -implicitDefEqProofs -dsimp []
   refine cy_of _ (callP (c2) (by simp)) ?_
   simp -implicitDefEqProofs -dsimp [h3,w,h5]
theorem kind_u (a b:Rw) (d:Od) (f g:Bool) (n:Nat) (ha:a.vals.length=n) (hb:b.vals.length=n) (hl:d.l.length≤1000000) (hr:d.r.length≤1000000) (h1:AtsOk n d.l) (h2:AtsOk n d.r):ConP Tryz.prog 126 [encRw a,encRw b,encOd f g d] fun r=>r = .int .i64 (kindO d a b):=by
 have c1:=cmpO_u a b d.l f n ha hb hl h1
 have c2:=cmpO_u a b d.r g n ha hb hr h2
 have w:=wrapX (cmpO_rng a b d.l) (cmpO_rng a b d.r)
 unfold kindO
 obtain ⟨p,hp⟩:∃p,p=cmpO a b d.l:=⟨_,rfl⟩
 obtain ⟨q,hq⟩:∃q,q=cmpO a b d.r:=⟨_,rfl⟩
 rw [←hp] at c1 w ⊢
 rw [←hq] at c2 w ⊢
 simp only [L1,encRw,LV] at c1 c2
 by_cases h3:p=0
 ·by_cases h4:q=0
  ·rw [if_neg (by simp [h4]),if_neg (by rw [h3]; omega)]
   refine conP_of_conH (conH_of_W tok Tryz.func126 rfl rfl ?_)
   refine wx ?_
   simp -implicitDefEqProofs -dsimp [Tryz.f126,List.replicate,L1,encRw,LV,encOd]
   refine .inr ⟨stop_of (by kernel_rfl),?_⟩
   refine cy_of _ (callP (c1) (by simp)) ?_
   simp -implicitDefEqProofs -dsimp []
   refine cy_of _ (callP (c2) (by simp)) ?_
   simp -implicitDefEqProofs -dsimp [h3,h4,w,show IntKind.i64.wrap (0:Int)=0 from wrap64 (by omega) (by omega)]
  ·rw [if_pos ⟨h3,h4⟩]
   refine conP_of_conH (conH_of_W tok Tryz.func126 rfl rfl ?_)
   refine wx ?_
   simp -implicitDefEqProofs -dsimp [Tryz.f126,List.replicate,L1,encRw,LV,encOd]
   refine .inr ⟨stop_of (by kernel_rfl),?_⟩
   refine cy_of _ (callP (c1) (by simp)) ?_
   simp -implicitDefEqProofs -dsimp []
   refine cy_of _ (callP (c2) (by simp)) ?_
   simp -implicitDefEqProofs -dsimp [h3,h4]
 ·rw [if_neg (fun h=>h3 h.1)]
  by_cases h5:p*q<0
  ·rw [if_pos h5]
   refine conP_of_conH (conH_of_W tok Tryz.func126 rfl rfl ?_)
   refine wx ?_
   simp -implicitDefEqProofs -dsimp [Tryz.f126,List.replicate,L1,encRw,LV,encOd]
   refine .inr ⟨stop_of (by kernel_rfl),?_⟩
   refine cy_of _ (callP (c1) (by simp)) ?_
   simp -implicitDefEqProofs -dsimp []
   refine cy_of _ (callP (c2) (by simp)) ?_
   simp -implicitDefEqProofs -dsimp [h3,w,h5]
  ·rw [if_neg h5]
   refine conP_of_conH (conH_of_W tok Tryz.func126 rfl rfl ?_)
   refine wx ?_
   simp -implicitDefEqProofs -dsimp [Tryz.f126,List.replicate,L1,encRw,LV,encOd]
   refine .inr ⟨stop_of (by kernel_rfl),?_⟩
   refine cy_of _ (callP (c1) (by simp)) ?_
   simp -implicitDefEqProofs -dsimp []
   refine cy_of _ (callP (c2) (by simp)) ?_
   simp -implicitDefEqProofs -dsimp [h3,w,h5]
theorem relL_le {s:AM.St} {z:Nat} {xs ys:List V} {fl:Bool} {u:Value} (h:Rel s (.lst z fl xs) u) (hl:xs.length=ys.length) (hz:∀y∈ys,y.cells.length=z∧∀c∈y.cells,c.one=true)
  (hle:∀(i:Nat) x y,xs[i]?=some x→ys[i]?=some y→∀(j:Nat) c,y.cells[j]?=some c→∃d,x.cells[j]?=some d∧lfB d c):Rel s (.lst z fl ys) u:=by
 cases h with
 | lst _ _ _ A cap b off u hcap hfull hA hz0 hcell hrel =>
  rw [hl]
  refine .lst z fl ys A cap b off u (by omega) (fun h=>by rw [←hl]; exact hfull h) (fun h=>hA (by omega)) hz (fun i y j c hy hc=>?_) (fun i y j c hy hc=>?_)
  ·have hx:xs[i]?=some (xs[i]'(by have:=getElem?_lt hy; omega)):=List.getElem?_eq_getElem _
   obtain ⟨d,hd,_⟩:=hle i _ y hx hy j c hc
   exact hcell i _ j d hx hd
  ·have hx:xs[i]?=some (xs[i]'(by have:=getElem?_lt hy; omega)):=List.getElem?_eq_getElem _
   obtain ⟨d,hd,h2⟩:=hle i _ y hx hy j c hc
   exact lf_rel (hrel i _ j d hx hd) h2
theorem conP_resL {P:Program} {f:FuncId} {args:List V} {K K':V→Prop} (h:ConP P f args K) (hk:∀s u r,K r→Rel s r u→∃r',Rel s r' u∧AM.Pure r'∧K' r'):ConP P f args K':=by
 refine ⟨h.1,fun F w vals hZ hF hsz hrel=>(h.2 F w vals hZ hF hsz hrel).mono fun e w' ⟨u,r,a1,a2,a3,a4,a5⟩=>?_⟩
 obtain ⟨r',b1,b2,b3⟩:=hk _ u r a5 a3
 exact ⟨u,r',a1,b2,b1,a4,b3⟩
def LT (g:Bool) (es:List (List Int)):V:=.lst 1 g (es.map (L1 true))
theorem LT_rb (n e:Nat) (es:List (List Int)):rbB n (.buf e 1 (es.map (L1 true)) false):=(rbB_buf1 (fun x hx=>by obtain ⟨y,_,rfl⟩:=List.mem_map.1 hx; exact ⟨by simp,rfl⟩)).2 trivial
theorem LF_rb (n e:Nat) (es:List (List Int)):rbB n (.buf e 1 (es.map (L1 false)) false):=(rbB_buf1 (fun x hx=>by obtain ⟨y,_,rfl⟩:=List.mem_map.1 hx; exact ⟨by simp,rfl⟩)).2 trivial
theorem rel_LT {s:AM.St} {g:Bool} {es:List (List Int)} {u:Value} (h:Rel s (LT g es) u):Rel s (LL g es) u:=by
 refine relL_le h (by simp) (fun y hy=>?_) (fun i x y hx hy j c hc=>?_)
 ·obtain ⟨z,_,rfl⟩:=List.mem_map.1 hy
  refine ⟨rfl,fun c hc=>?_⟩
  simp only [L1,V.cells,List.mem_cons,List.not_mem_nil,or_false] at hc
  subst hc; rfl
 ·rw [List.getElem?_map] at hx hy
  cases hz:es[i]? with
  | none=>rw [hz] at hx; cases hx
  | some z =>
   rw [hz] at hx hy
   simp only [Option.map_some,Option.some.injEq] at hx hy
   subst hx; subst hy
   match j with
   | 0 =>
    simp [L1,V.cells] at hc
    subst hc
    exact ⟨_,rfl,.inr (.inl ⟨1,z.map encI,rfl,rfl⟩)⟩
   | j+1=>simp [L1,V.cells] at hc
theorem rel_tup2 {s:AM.St} {a a' b:V} {u:Value} (h:Rel s (.tup [a,b]) u) (ha:∀x,Rel s a x→Rel s a' x):Rel s (.tup [a',b]) u:=by
 cases h with
 | tup _ us hl hr =>
  refine .tup _ us (by simpa using hl) (fun i v x hv hx=>?_)
  match i with
  | 0=>simp at hv; subst hv; exact ha _ (hr 0 a x rfl hx)
  | 1=>simp at hv; subst hv; exact hr 1 _ x rfl hx
  | i+2=>simp at hv
theorem conP_LT {P:Program} {f:FuncId} {args:List V} {es:List (List Int)} {e:Int} (h:ConP P f args fun r=>r = .tup [LT false es,.int .i64 e]):ConP P f args fun r=>r = .tup [LL false es,.int .i64 e] :=
 conP_resL h fun s u r hr hrel=>⟨_,rel_tup2 (hr▸hrel) fun x=>rel_LT,by simp [LL],rfl⟩
structure TbS (t:Tb):Prop where
 ok:TbOk t
 sz:∀r∈t.rows,∀v∈r.vals,v.s.size≤maxLen
 few:t.rows.length≤8
theorem pr_cons {P:Rw→Rw→Bool} {R:List Rw} {i:Nat} (h:i<R.length):prL P (R.drop i)=(((R.drop (i+1)).filter (P R[i])).map fun s=>[R[i].id,s.id])++prL P (R.drop (i+1)):=by
 rw [List.drop_eq_getElem_cons h,prL]
theorem in_cons {P:Rw→Rw→Bool} {R:List Rw} {r:Rw} {k:Nat} (h:k<R.length):(((R.drop k).filter (P r)).map fun s=>[r.id,s.id])=(if P r R[k]=true then [[r.id,R[k].id]] else [])++(((R.drop (k+1)).filter (P r)).map fun s=>[r.id,s.id]):=by
 rw [List.drop_eq_getElem_cons h]
 by_cases hp:P r R[k]=true
 ·rw [List.filter_cons_of_pos hp,if_pos hp]; rfl
 ·rw [List.filter_cons_of_neg hp,if_neg hp]; rfl
theorem viol17 (t:Tb) (d:Od) (f g f2 g2:Bool) (h:TbS t) (hl:d.l.length≤1000000) (hr:d.r.length≤1000000) (hv:validT t=0) (ho:odB t.attrs.length d=true):ConP Tryz.prog 93 [encTb f g t,encOd f2 g2 d] fun r=>r = .tup [LL false (prL (odP d) t.rows),.int .i64 0]:=by
 refine conP_LT ?_
 have ct:=tbC hv
 have c1:=valid03 t f g h.ok
 rw [hv] at c1
 have c2:=valid17 t.attrs.length d f2 g2 hl hr
 rw [ho] at c2
 simp only [encTb,LR,LS,encOd,L1] at c1 c2
 have hol:AtsOk t.attrs.length d.l∧AtsOk t.attrs.length d.r:=by
  unfold odB at ho
  rw [Bool.and_eq_true] at ho
  exact ⟨ol_ats ho.1,ol_ats ho.2⟩
 obtain ⟨R,hR⟩:∃R,R=t.rows:=⟨_,rfl⟩
 obtain ⟨E,hE⟩:∃E,E=prL (odP d) R:=⟨_,rfl⟩
 have hR8:R.length≤8:=by rw [hR]; exact h.few
 have hE64:E.length≤64:=by rw [hE]; exact Nat.le_trans (prL_len R) (sq8 hR8)
 have hlen:∀r∈R,r.vals.length=t.attrs.length:=by rw [hR]; exact ct.len
 have hsz:∀r∈R,∀v∈r.vals,v.s.size≤maxLen:=by rw [hR]; exact h.sz
 have c3:@Exists Bool fun e=>(e=true∧True):=⟨true,rfl,trivial⟩
 clear c3
 have ca:ConP Tryz.prog 143 [encTb f g t,encOd f2 g2 d] fun r=>r = .int .i64 0:=by
  refine conP_of_conH (conH_of_W tok Tryz.func143 rfl rfl ?_)
  refine wx ?_
  simp -implicitDefEqProofs -dsimp [Tryz.f143,List.replicate,encTb,encOd,LR,LS,L1]
  refine (callP (c1) (by simp)).mono ?_
  rintro r H' ⟨rfl,rfl⟩
  simp -implicitDefEqProofs -dsimp []
  refine (callP (c2) (by simp)).mono ?_
  rintro r H' ⟨rfl,rfl⟩
  simp -implicitDefEqProofs -dsimp []
 simp only [encTb,LR,LS,encOd,L1] at ca
 rw [←hR] at ca ⊢
 rw [←hE]
 have hrb:∀o:List (List Int),∀bl∈[B.cells [.str t.name,.lst 1 f (t.attrs.map V.str),.lst 2 g (R.map encRw)],B.cells [.lst 1 f2 (d.l.map encI),.lst 1 g2 (d.r.map encI)],B.buf 46 1 (o.map (L1 true)) false],rbB 3 bl:=fun o bl hbl=>by
  simp only [List.mem_cons,List.not_mem_nil,or_false] at hbl
  rcases hbl with rfl | rfl | rfl
  ·intro c hc; simp at hc; rcases hc with rfl | rfl | rfl<;>simp [rb,rb1]
  ·intro c hc; simp at hc; rcases hc with rfl | rfl<;>simp [rb,rb1]
  ·exact LT_rb _ _ _
 refine conP_of_conH (conH_of_W (tok_flag tok (fun t=>t == 46)) Tryz.func93 rfl rfl ?_)
 refine W_x (tok_flag tok (fun t=>t == 46)) mixed ?_
 simp -implicitDefEqProofs -dsimp [Tryz.f93,List.replicate,encTb,encOd,LR,LS,hR.symm,L1,flagT]
 refine (callP (ca) (by simp)).mono ?_
 rintro r H' ⟨rfl,rfl⟩
 simp -implicitDefEqProofs -dsimp [L1,flagT]
 refine lw_of (W_own 46 1 [7] (by simp) (W_loopM 61 [7,8,9,16,17,18,19,20,21,22,23,24,25,26,27,28,29,30,31,32,33,34,35,36,37,38,39,40,41,42,43,44,45,46,47,48,49,50,51,52,53,54,55,56,57,58,59,60] (by simp [mB]<;>rfl) (σ:=Nat×List (List Int)) (fun p=>p.2++prL (odP d) (R.drop p.1)=E) (fun p=>R.length - p.1) (fun p=>[(8,.int .i64 p.1),(7,.buf 2 0 p.2.length p.2.length)]) (fun p=>[B.cells [.str t.name,.lst 1 f (t.attrs.map V.str),.lst 2 g (R.map encRw)],B.cells [.lst 1 f2 (d.l.map encI),.lst 1 g2 (d.r.map encI)],B.buf 46 1 (p.2.map (L1 true)) false]) (0,[]) (by rw [hE]; rfl) (by simp) (by simp) (by simp) ?_))
 rintro ⟨i,out⟩ hx N Q hN hQ
 simp only at hx
 by_cases hb:i<R.length
 ·rw [pr_cons hb] at hx
  have hri:=hlen _ (List.getElem_mem hb)
  have hsi:=hsz _ (List.getElem_mem hb)
  obtain ⟨r,hre⟩:∃r,r=R[i]:=⟨_,rfl⟩
  rw [←hre] at hx hri hsi
  refine W_x (tok_flag tok (fun t=>t == 46)) mixed ?_
  simp -implicitDefEqProofs -dsimp [hb,wrapS i (by omega),L1,flagT]
  refine lw_of (W_loopM 61 [7,9,25,26,27,28,29,30,31,32,33,34,35,36,37,38,39,40,41,42,43,44,45,46,47,48,49,50,51,52,53,54,55,56,57,58,59,60] (by simp [mB]<;>rfl) (σ:=Nat×List (List Int)) (fun p=>i<p.1∧p.2++((((R.drop p.1).filter (odP d r)).map fun s=>[r.id,s.id])++prL (odP d) (R.drop (i+1)))=E) (fun p=>R.length - p.1) (fun p=>[(9,.int .i64 p.1),(7,.buf 2 0 p.2.length p.2.length)]) (fun p=>[B.cells [.str t.name,.lst 1 f (t.attrs.map V.str),.lst 2 g (R.map encRw)],B.cells [.lst 1 f2 (d.l.map encI),.lst 1 g2 (d.r.map encI)],B.buf 46 1 (p.2.map (L1 true)) false]) (i+1,out) ⟨by simp,hx⟩ (by simp) (by simp) (by simp) ?_)
  rintro ⟨k,o2⟩ ⟨hk0,hx2⟩ N2 Q2 hN2 hQ2
  simp only at hk0 hx2
  by_cases hkb:k<R.length
  ·rw [in_cons hkb] at hx2
   have hrk:=hlen _ (List.getElem_mem hkb)
   obtain ⟨s,hse⟩:∃s,s=R[k]:=⟨_,rfl⟩
   rw [←hse] at hx2 hrk
   have c4:=kind17 r s d f2 g2 t.attrs.length hri hrk hl hr hol.1 hol.2 hsi
   simp only [encRw,LV,encOd,L1] at c4
   have ho2:o2.length≤64:=by rw [←hx2] at hE64; simp only [List.length_append] at hE64; omega
   by_cases hq:kindO d r s=0
   ·rw [hq] at c4
    rw [if_neg (by simp [odP,hq]),List.nil_append] at hx2
    refine W_x (tok_flag tok (fun t=>t == 46)) mixed ?_
    simp -implicitDefEqProofs -dsimp [hb,hkb,hre.symm,hse.symm,encRw,LV,L1,flagT]
    refine .inr ⟨stop_of (by kernel_rfl),?_⟩
    refine cy_of _ (callP (c4) (by simp)) ?_
    simp -implicitDefEqProofs -dsimp [wrapS k (by omega),L1,flagT]
    refine hN2 (k+1,o2) _ _ ⟨by simp only; omega,hx2⟩ (by simp only; omega) (by simp) ⟨_,rfl⟩ (by simp) (by simp [L1])
   ·rw [if_pos (by simp [odP,hq])] at hx2
    refine W_x (tok_flag tok (fun t=>t == 46)) mixed ?_
    simp -implicitDefEqProofs -dsimp [hb,hkb,hre.symm,hse.symm,encRw,LV,L1,flagT]
    refine .inr ⟨stop_of (by kernel_rfl),?_⟩
    refine cy_of _ (callP (c4) (by simp)) ?_
    simp -implicitDefEqProofs -dsimp [hq,L1,flagT]
    refine lw_of (W_drawT (tok_flag tok (fun t=>t == 46)) mixed [15] [] [] (by kernel_rfl) fun C K hC hK=>?_)
    simp -implicitDefEqProofs [hb,hkb,hre.symm,hse.symm,encRw,LV,cap24 o2.length (by omega),wrapN o2.length (by omega),L1,flagT]
    refine hK _ _ ?_
    simp -implicitDefEqProofs -dsimp [wrapS k (by omega),L1,flagT]
    refine hN2 (k+1,o2++[[r.id,s.id]]) _ _ ⟨by simp only; omega,by rw [←hx2]; simp⟩ (by simp only; omega) (by simp) ⟨[],by simp [encI,L1]⟩ (by simp) (hrb _)
  ·rw [List.drop_of_length_le (show R.length≤k by omega)] at hx2
   refine W_x (tok_flag tok (fun t=>t == 46)) mixed ?_
   simp -implicitDefEqProofs -dsimp [hkb,L1,flagT]
   refine hQ2 _ _ _ ?_
   simp -implicitDefEqProofs -dsimp [wrapS i (by omega),L1,flagT]
   refine hN (i+1,o2) _ _ (by simpa using hx2) (by simp only; omega) (by simp) ⟨_,rfl⟩ (by simp) (by simp [L1])
 ·rw [List.drop_of_length_le (show R.length≤i by omega),prL,List.append_nil] at hx
  subst hx
  refine W_frz 2 [7] rfl (by simp) ?_
  refine W_x (tok_flag tok (fun t=>t == 46)) mixed ?_
  simp -implicitDefEqProofs -dsimp [hb,L1,flagT]
  refine hQ _ _ _ ?_
  simp -implicitDefEqProofs -dsimp [LT,L1,flagT]
  skip
theorem oclo_u (n:Int) (d:Od) (f2 g2:Bool) (b0 b2:B) (hl:d.l.length≤1000000) (hr:d.r.length≤1000000) :
  WCall Tryz.prog (.fn 125 [.ptr 1 0]) [.int .i64 n] [b0,B.cells [.lst 1 f2 (d.l.map encI),.lst 1 g2 (d.r.map encI)],b2] fun r H'=>r = .bool (odB n d)∧H'=[b0,B.cells [.lst 1 f2 (d.l.map encI),.lst 1 g2 (d.r.map encI)],b2]:=by
 have c:=validO_u n d f2 g2 hl hr
 simp only [encOd,L1] at c
 simp only [WCall,List.cons_append,List.nil_append]
 refine conH_of_W tok Tryz.func125 rfl rfl ?_
 refine wx ?_
 simp -implicitDefEqProofs -dsimp [Tryz.f125,List.replicate]
 refine (callP (c) (by simp)).mono ?_
 rintro r H' ⟨rfl,rfl⟩
 simp -implicitDefEqProofs -dsimp []
def ocB (d:Od) (f2 g2:Bool):B:=B.cells [.lst 1 f2 (d.l.map encI),.lst 1 g2 (d.r.map encI)]
theorem ocB_rb (n:Nat) (d:Od) (f2 g2:Bool):rbB n (ocB d f2 g2):=fun c hc=>by
 simp only [List.mem_cons,List.not_mem_nil,or_false] at hc
 rcases hc with rfl | rfl<;>simp [rb,rb1,encI]
def tcB (t:Tb) (f g:Bool):B:=.cells [.str t.name,.lst 1 f (t.attrs.map V.str),.lst 2 g (t.rows.map encRw)]
theorem tcB_rb (n:Nat) (t:Tb) (f g:Bool):rbB n (tcB t f g):=fun c hc=>by
 simp only [List.mem_cons,List.not_mem_nil,or_false] at hc
 rcases hc with rfl | rfl | rfl<;>simp [rb,rb1]
def rcB (r:Rw):B:=.cells [.int .i64 r.id,.lst 3 false (r.vals.map encV)]
theorem rcB_rb (n:Nat) (r:Rw):rbB n (rcB r):=fun c hc=>by
 simp only [List.mem_cons,List.not_mem_nil,or_false] at hc
 rcases hc with rfl | rfl<;>simp [rb,rb1]
theorem ochk_u (t:Tb) (d:Od) (f g f2 g2:Bool) (h:TbOk t) (hl:d.l.length≤1000000) (hr:d.r.length≤1000000) (hv:validT t=0) (ho:odB t.attrs.length d=true) :
  ConH Tryz.prog 124 [encTb f g t,.fn 125 [.ptr 1 0]] [tcB t f g,ocB d f2 g2] fun r H'=>r = .int .i64 0∧H'=[tcB t f g,ocB d f2 g2]:=by
 have c1:=tableValid t f g h
 rw [hv] at c1
 have c2:=oclo_u t.attrs.length d f2 g2 (tcB t f g) (tcB t f g) hl hr
 rw [ho] at c2
 simp only [encTb,LS,LR] at c1
 refine conH_cutZ ?_ (by simp [rb,rb1]) ⟨Nat.le_refl _,fun bl hbl=>by
  simp only [List.mem_cons,List.not_mem_nil,or_false] at hbl
  rcases hbl with rfl | rfl
  ·exact tcB_rb _ _ _ _
  ·exact ocB_rb _ _ _ _⟩
 simp only [ocB,tcB] at c2 ⊢
 refine conH_of_W tok Tryz.func124 rfl rfl ?_
 refine wx ?_
 simp -implicitDefEqProofs -dsimp [Tryz.f124,List.replicate,encTb,LS,LR]
 refine (callP (c1) (by simp)).mono ?_
 rintro r H' ⟨rfl,rfl⟩
 simp -implicitDefEqProofs -dsimp []
 refine c2.mono ?_
 rintro r H' ⟨rfl,rfl⟩
 simp -implicitDefEqProofs -dsimp []
theorem violO_u (t:Tb) (d:Od) (f g f2 g2:Bool) (h:TbS t) (hl:d.l.length≤1000000) (hr:d.r.length≤1000000) (hv:validT t=0) (ho:odB t.attrs.length d=true):ConP Tryz.prog 81 [encTb f g t,encOd f2 g2 d] fun r=>r = .tup [LL false (prL (odP d) t.rows),.int .i64 0]:=by
 refine conP_LT ?_
 have ct:=tbC hv
 have c1:=ochk_u t d f g f2 g2 h.ok hl hr hv ho
 have hol:AtsOk t.attrs.length d.l∧AtsOk t.attrs.length d.r:=by
  unfold odB at ho
  rw [Bool.and_eq_true] at ho
  exact ⟨ol_ats ho.1,ol_ats ho.2⟩
 simp only [encTb,LR,LS,tcB,ocB] at c1
 obtain ⟨R,hR⟩:∃R,R=t.rows:=⟨_,rfl⟩
 obtain ⟨E,hE⟩:∃E,E=prL (odP d) R:=⟨_,rfl⟩
 have hR8:R.length≤8:=by rw [hR]; exact h.few
 have hE64:E.length≤64:=by rw [hE]; exact Nat.le_trans (prL_len R) (sq8 hR8)
 have hlen:∀r∈R,r.vals.length=t.attrs.length:=by rw [hR]; exact ct.len
 have htB:tcB t f g = .cells [.str t.name,.lst 1 f (t.attrs.map V.str),.lst 2 g (R.map encRw)]:=by rw [hR]; rfl
 rw [←hR] at c1 ⊢
 rw [←hE]
 have hrb:∀o:List (List Int),∀bl∈[B.cells [.str t.name,.lst 1 f (t.attrs.map V.str),.lst 2 g (R.map encRw)],B.cells [.lst 1 f2 (d.l.map encI),.lst 1 g2 (d.r.map encI)],B.buf 46 1 (o.map (L1 true)) false],rbB 3 bl:=fun o bl hbl=>by
  simp only [List.mem_cons,List.not_mem_nil,or_false] at hbl
  rcases hbl with rfl | rfl | rfl
  ·rw [←htB]; exact tcB_rb _ _ _ _
  ·exact ocB_rb _ _ _ _
  ·exact LT_rb _ _ _
 have hrb2:∀(r:Rw) (o:List (List Int)),∀bl∈[B.cells [.str t.name,.lst 1 f (t.attrs.map V.str),.lst 2 g (R.map encRw)],B.cells [.lst 1 f2 (d.l.map encI),.lst 1 g2 (d.r.map encI)],B.buf 46 1 (o.map (L1 true)) false,B.cells [.int .i64 r.id,.lst 3 false (r.vals.map encV)]],rbB 4 bl:=fun r o bl hbl=>by
  simp only [List.mem_cons,List.not_mem_nil,or_false] at hbl
  rcases hbl with rfl | rfl | rfl | rfl
  ·rw [←htB]; exact tcB_rb _ _ _ _
  ·exact ocB_rb _ _ _ _
  ·exact LT_rb _ _ _
  ·exact rcB_rb _ _
 refine conP_of_conH (conH_of_W (tok_flag tok (fun t=>t == 46)) Tryz.func81 rfl rfl ?_)
 refine W_x (tok_flag tok (fun t=>t == 46)) mixed ?_
 simp -implicitDefEqProofs -dsimp [Tryz.f81,List.replicate,encTb,encOd,LR,LS,hR.symm,L1,flagT]
 refine WCall.mono (K:=fun r H'=>r = .int .i64 0∧H'=[B.cells [.str t.name,.lst 1 f (t.attrs.map V.str),.lst 2 g (R.map encRw)],B.cells [.lst 1 f2 (d.l.map encI),.lst 1 g2 (d.r.map encI)]]) c1 ?_
 rintro r H' ⟨rfl,rfl⟩
 simp -implicitDefEqProofs -dsimp [L1,flagT]
 refine lw_of (W_own 46 1 [7] (by simp) (W_loopM 51 [7,8,9,11,21,22,23,24,25,26,27,28,29,30,31,32,33,34,35,36,37,38,39,40,41,42,43,44,45,46,47,48,49,50] (by simp [mB]<;>rfl) (σ:=Nat×List (List Int)) (fun p=>p.2++prL (odP d) (R.drop p.1)=E) (fun p=>R.length - p.1) (fun p=>[(21,.int .i64 p.1),(7,.buf 2 0 p.2.length p.2.length)]) (fun p=>[B.cells [.str t.name,.lst 1 f (t.attrs.map V.str),.lst 2 g (R.map encRw)],B.cells [.lst 1 f2 (d.l.map encI),.lst 1 g2 (d.r.map encI)],B.buf 46 1 (p.2.map (L1 true)) false]) (0,[]) (by rw [hE]; rfl) (by simp) (by simp) (by simp) ?_))
 rintro ⟨i,out⟩ hx N Q hN hQ
 simp only at hx
 by_cases hb:i<R.length
 ·rw [pr_cons hb] at hx
  have hri:=hlen _ (List.getElem_mem hb)
  obtain ⟨r,hre⟩:∃r,r=R[i]:=⟨_,rfl⟩
  rw [←hre] at hx hri
  have hdp:∀x∈(R.map encRw).drop (i+1),AM.Pure x:=fun x hx=>by
   obtain ⟨y,_,rfl⟩:=List.mem_map.1 (List.mem_of_mem_drop hx)
   exact encRw_pure y
  have htk:(R.map encRw).take R.length=R.map encRw:=List.take_of_length_le (by simp)
  refine W_x (tok_flag tok (fun t=>t == 46)) mixed ?_
  simp -implicitDefEqProofs -dsimp [hb,hre.symm,encRw,LV,wrapS i (by omega),show (0:Int)≤(i:Int)+1 by omega,show i+1≤R.length by omega,htk,L1,flagT]
  refine lw_of (W_loopM 50 [7,11,32,33,34,35,36,37,38,39,40,41,42,43,44,45,46,47,48,49] (by simp [mB]<;>rfl) (σ:=Nat×List (List Int)) (fun p=>p.2++((((R.drop (i+1+p.1)).filter (odP d r)).map fun s=>[r.id,s.id])++prL (odP d) (R.drop (i+1)))=E) (fun p=>R.length - p.1) (fun p=>[(32,.int .i64 p.1),(7,.buf 2 0 p.2.length p.2.length)]) (fun p=>[B.cells [.str t.name,.lst 1 f (t.attrs.map V.str),.lst 2 g (R.map encRw)],B.cells [.lst 1 f2 (d.l.map encI),.lst 1 g2 (d.r.map encI)],B.buf 46 1 (p.2.map (L1 true)) false,B.cells [.int .i64 r.id,.lst 3 false (r.vals.map encV)]]) (0,out) hx (by simp) (by simp) (by simp) ?_)
  rintro ⟨k,o2⟩ hx2 N2 Q2 hN2 hQ2
  simp only at hx2
  by_cases hkb:k<R.length - (i+1)
  ·have hkR:i+1+k<R.length:=by omega
   rw [in_cons hkR] at hx2
   have hrk:=hlen _ (List.getElem_mem hkR)
   obtain ⟨s,hse⟩:∃s,s=R[i+1+k]:=⟨_,rfl⟩
   rw [←hse] at hx2 hrk
   have c4:=kind_u r s d f2 g2 t.attrs.length hri hrk hl hr hol.1 hol.2
   simp only [encRw,LV,encOd,L1] at c4
   have ho2:o2.length≤64:=by rw [←hx2] at hE64; simp only [List.length_append] at hE64; omega
   by_cases hq:kindO d r s=0
   ·rw [hq] at c4
    rw [if_neg (by simp [odP,hq]),List.nil_append] at hx2
    refine W_x (tok_flag tok (fun t=>t == 46)) mixed ?_
    simp -implicitDefEqProofs -dsimp [hkb,hkR,hse.symm,encRw,LV,L1,flagT]
    refine (callP (c4) (by simp)).mono ?_
    rintro r H' ⟨rfl,rfl⟩
    simp -implicitDefEqProofs -dsimp [wrapS k (by omega),L1,flagT]
    refine hN2 (k+1,o2) _ _ hx2 (by simp only; omega) (by simp) ⟨[B.cells [.int .i64 s.id,.lst 3 false (s.vals.map encV)]],by simp⟩ (by simp; exact hdp) (hrb2 _ _)
   ·rw [if_pos (by simp [odP,hq])] at hx2
    refine W_x (tok_flag tok (fun t=>t == 46)) mixed ?_
    simp -implicitDefEqProofs -dsimp [hkb,hkR,hse.symm,encRw,LV,L1,flagT]
    refine (callP (c4) (by simp)).mono ?_
    rintro r H' ⟨rfl,rfl⟩
    simp -implicitDefEqProofs -dsimp [hq,cap24 o2.length (by omega),wrapN o2.length (by omega),wrapS k (by omega),L1,flagT]
    refine hN2 (k+1,o2++[[r.id,s.id]]) _ _ (by rw [←hx2]; simp [Nat.add_assoc]) (by simp only; omega) (by simp) ⟨[B.cells [.int .i64 s.id,.lst 3 false (s.vals.map encV)]],by simp [encI,L1]⟩ (by simp; exact hdp) (hrb2 _ _)
  ·rw [List.drop_of_length_le (show R.length≤i+1+k by omega)] at hx2
   refine W_x (tok_flag tok (fun t=>t == 46)) mixed ?_
   simp -implicitDefEqProofs -dsimp [hkb,L1,flagT]
   refine hQ2 _ _ _ ?_
   simp -implicitDefEqProofs -dsimp [wrapS i (by omega),L1,flagT]
   refine hN (i+1,o2) _ _ (by simpa using hx2) (by simp only; omega) (by simp) ⟨[B.cells [.int .i64 r.id,.lst 3 false (r.vals.map encV)]],by simp⟩ (by simp) (hrb _)
 ·rw [List.drop_of_length_le (show R.length≤i by omega),prL,List.append_nil] at hx
  subst hx
  refine W_frz 2 [7] rfl (by simp) ?_
  refine W_x (tok_flag tok (fun t=>t == 46)) mixed ?_
  simp -implicitDefEqProofs -dsimp [hb,L1,flagT]
  refine hQ _ _ _ ?_
  simp -implicitDefEqProofs -dsimp [LT,L1,flagT]
  skip
end
end Go.Proofs.YtfaleabndlcanaaGreatDoor
namespace Go.Proofs.YtfaleabndlcanaaGreatDoor
section
open Go Go.AM Go.RowKit
theorem capRw (n:Nat) (h:n≤1000000000):n≤9223372036854775806∧(n+1)*32≤140737488355328:=by omega
theorem capCn (n:Nat) (h:n≤1000000):n≤9223372036854775806∧(n+1)*272≤140737488355328:=by omega
theorem conO_row0 {f:FuncId} {args:List V} {e z:Nat} (hE:AM.Enters Tryz.prog f) (h:∀(F:Nat→Prop) (w:World) (vals:Array Value),vals.size=args.length→(∀(i:Nat) a u,args[i]?=some a→vals[i]?=some u→Rel (AM.base F w) a u) →
  Calls Tryz.prog f vals w fun e' w'=>∃v,e' = .returned v∧Below w.heap.size w w'∧(v = .slice none 0 0∨∃g c cur,v = .slice (some ⟨g,0,none⟩) 0 c∧w.heap.size≤g∧w'.heap[g]?=some (.cells cur e (0,0))∧c≤maxLen∧cur.size=c*z)):ConO Tryz.prog f args fun e' z' ys=>e'=e∧z'=z∧ys=[]:=by
 refine ⟨hE,fun F w vals hZ hF hsz hrel=>(h F w vals hsz hrel).mono fun e' w' ⟨v,he,hb,hv⟩=>?_⟩
 rcases hv with hv | ⟨g,c,cur,hv,hg,hc,hm,hs⟩
 ·have hF':∀b,F b→b<w'.heap.size:=fun b hb'=>Nat.lt_of_lt_of_le (hF b hb') hb.size
  obtain ⟨p1,_⟩:=push0 (AM.base_good hF') (w:=w') 0 e z false rfl rfl rfl (Nat.le_refl _) (fun _ _=>rfl)
  refine ⟨v,e,z,[],none,0,0,he,hv,fun h=>absurd rfl h,by simp,fun h=>absurd rfl h,?_,hb,rfl,rfl,rfl⟩
  refine ⟨hF',fun k hk=>absurd (hk.2 e z [] false (by have:=hk.1; simp at this; subst this; rfl)) (by simp),fun j k hj hk _=>by have:=hj.1; have:=hk.1; simp at *; omega,fun k bl hk=>?_⟩
  have hk0:k=0:=by have:=getElem?_lt hk; simp at this; omega
  subst hk0
  simp at hk
  subst hk
  exact ⟨#[],fun h=>absurd rfl h,by simp,by simp,by simp [maxLen],(fun x hx=>by cases hx),(fun i x j c u hx=>by simp at hx)⟩
 ·have hF':∀b,F b→b<w'.heap.size:=fun b hb'=>Nat.lt_of_lt_of_le (hF b hb') hb.size
  refine ⟨v,e,z,[],some ⟨g,0,none⟩,g,c,he,hv,fun _=>rfl,by simp,fun _=>hg,?_,hb,rfl,rfl,rfl⟩
  refine ⟨hF',fun k hk=>⟨(Array.getElem?_eq_some_iff.1 hc).1,fun hf=>by have:=hF g hf; omega⟩,fun j k hj hk _=>by have:=hj.1; have:=hk.1; simp at *; omega,fun k bl hk=>?_⟩
  have hk0:k=0:=by have:=getElem?_lt hk; simp at this; omega
  subst hk0
  simp at hk
  subst hk
  exact ⟨cur,fun _=>hc,by simpa using hs,by simp,hm,(fun x hx=>by cases hx),(fun i x j c u hx=>by simp at hx)⟩
theorem infoD_R:(Tryz.prog.info? 97).map (fun i=>(i.zero,i.size,i.bytes))=some (some (.agg #[.int .i64 0,.slice none 0 0]),2,32):=by kernel_rfl
theorem cloneE_R (A:Option Addr) (cap:Nat) (w:World) :
  Calls Tryz.prog 166 #[.slice A 0 cap] w fun e w'=>∃v,e = .returned v∧w'.ownsRow w.heap.size 97 2 v 0 []∧Below w.heap.size w w':=by
 have hnil:=fun W A n c=>Lib.run_eql_slice_nil (P:=Tryz.prog) W 23 97 A n c 0 0 Tryz.underlying23
 cases A with
 | none =>
  go_enter Tryz.func166,Tryz.ntmps166
  go_wp2
  go_ret
  exact ⟨_,rfl,World.ownsRow_nil _ _ _ _,Below.refl _ _⟩
 | some ad =>
  obtain ⟨i0,hi,hz0,hz1,hz2⟩:=info_parts infoD_R
  have hown:(w.alloc (.cells #[] 97)).ownsRow w.heap.size 97 2 (.slice (some ⟨w.heap.size,0,none⟩) 0 0) 0 []:=World.ownsRow_lit w #[] 0 (Nat.le_refl _) (by simp [maxLen]) (by simp)
  have hnews:∀j u,([]:List Value)[j]?=some u→(w.alloc (.cells #[] 97)).cell? (ad.add j)=some u:=by
   intro j u hu
   simp at hu
  have hone:∀u∈([]:List Value),u.oneCell'=true:=by intro u hu; cases hu
  have h63:0+0≤maxLen:=by simp [maxLen]
  have hby:(0+0)*32≤140737488355328:=by omega
  have hlen:([]:List Value).length=0*2:=by simp
  have Hi:=Lib.hid (show Tryz.prog.info? 97=some i0∧i0.zero=some _∧i0.size=2∧i0.bytes=32 from ⟨hi,hz0,hz1,hz2⟩)
  have Hw:=Lib.hid (And.intro hown (And.intro hnews (And.intro hone (And.intro h63 (And.intro hby hlen)))))
  clear hnews hone hown hi hz0 hz1 hz2 h63 hby hlen
  go_enter Tryz.func166,Tryz.ntmps166
  go_wp2_with (at_builtin; refine wpList_append_own _ rfl _ _ 23 rfl w.heap.size 97 i0 _ 2 32 Tryz.underlying23 Hi.out.1 Hi.out.2.1 Hi.out.2.2.1 Hi.out.2.2.2 rfl (by omega) (.slice (some ⟨w.heap.size,0,none⟩) 0 0) 0 [] rfl Hw.out.1 ad 0 cap [] rfl Hw.out.2.2.2.2.2 Hw.out.2.1 Hw.out.2.2.1 Hw.out.2.2.2.1 Hw.out.2.2.2.2.1 (by simp) ?_; intro v1 w1 ho hg hn; have Ho:=Lib.hid ho; have Hg:=Lib.hid hg; have Hn:=Lib.hid hn; clear ho hg hn)
  go_ret
  exact ⟨v1,rfl,by have:=Ho.out; simpa using this,((Below.refl _ _).alloc (Nat.le_refl _) _).grown Hg.out (by simp) (by simp [Value.ownBlock])⟩
theorem cloneN_R:∀(f:Bool),ConP Tryz.prog 166 [.lst 2 f []] fun r=>r = .lst 2 false []:=fun f=>by
 have hO:ConO Tryz.prog 166 [.lst 2 f []] fun e z ys=>e=97∧z=2∧ys=[]:=conO_row0 ⟨Tryz.f166,Tryz.func166,rfl,rfl⟩ (fun F w vals hsz hrel=>by
  obtain ⟨u0,rfl⟩:∃u0,vals = #[u0]:=by
   obtain ⟨l⟩:=vals
   match l,hsz with
   | [a],_=>exact ⟨a,rfl⟩
  have r0:=hrel 0 _ u0 rfl rfl
  cases r0
  refine (cloneE_R _ _ _).mono fun e' w' ⟨v,he,hown,hb⟩=>⟨v,he,hb,?_⟩
  obtain ⟨_,⟨hv,_⟩ | ⟨g,c,cur,hv,hg,hc,hn,hm,hs,_⟩⟩:=hown
  ·exact .inl hv
  ·exact .inr ⟨g,c,cur,hv,hg,hc,hm,hs⟩)
 refine ⟨hO.1,fun F w vals hZ hF hsz hrel=>((conP_of_conO hO).2 F w vals hZ hF hsz hrel).mono fun e w' ⟨u,r,h1,h2,h3,h4,e',z,ys,h5,h6,h7,h8⟩=>?_⟩
 subst h6; subst h7; subst h8
 exact ⟨u,r,h1,h2,h3,h4,h5⟩
theorem clone_R (l:List Rw) (f:Bool) (hl:l.length≤1000000):ConP Tryz.prog 166 [LR f l] fun r=>r=LR false l:=by
 cases l with
 | nil=>exact cloneN_R f
 | cons x xs =>
  have hl':xs.length≤1000000:=by simp only [List.length_cons] at hl; omega
  refine conP_of_conH (conH_of_W tok Tryz.func166 rfl rfl ?_)
  refine wx ?_
  simp -implicitDefEqProofs -dsimp [Tryz.f166,List.replicate,LR,eqA2,capRw xs.length (by omega),encRw]
  exact exp_buf rfl (by simp) (by simp)
theorem infoD_K:(Tryz.prog.info? 45).map (fun i=>(i.zero,i.size,i.bytes))=some (some (.agg #[.string ByteArray.empty,.string ByteArray.empty,.int .i64 0,.int .u32 0,.int .u32 0,.int .u32 0,.int .u32 0,.string ByteArray.empty,.slice none 0 0,.string ByteArray.empty,.slice none 0 0,.slice none 0 0,.int .i64 0,.slice none 0 0,.slice none 0 0,.slice none 0 0,.int .i64 0,.slice none 0 0]),18,272):=by kernel_rfl
theorem cloneE_K (A:Option Addr) (cap:Nat) (w:World) :
  Calls Tryz.prog 13 #[.slice A 0 cap] w fun e w'=>∃v,e = .returned v∧w'.ownsRow w.heap.size 45 18 v 0 []∧Below w.heap.size w w':=by
 have hnil:=fun W A n c=>Lib.run_eql_slice_nil (P:=Tryz.prog) W 26 45 A n c 0 0 Tryz.underlying26
 cases A with
 | none =>
  go_enter Tryz.func13,Tryz.ntmps13
  go_wp2
  go_ret
  exact ⟨_,rfl,World.ownsRow_nil _ _ _ _,Below.refl _ _⟩
 | some ad =>
  obtain ⟨i0,hi,hz0,hz1,hz2⟩:=info_parts infoD_K
  have hown:(w.alloc (.cells #[] 45)).ownsRow w.heap.size 45 18 (.slice (some ⟨w.heap.size,0,none⟩) 0 0) 0 []:=World.ownsRow_lit w #[] 0 (Nat.le_refl _) (by simp [maxLen]) (by simp)
  have hnews:∀j u,([]:List Value)[j]?=some u→(w.alloc (.cells #[] 45)).cell? (ad.add j)=some u:=by
   intro j u hu
   simp at hu
  have hone:∀u∈([]:List Value),u.oneCell'=true:=by intro u hu; cases hu
  have h63:0+0≤maxLen:=by simp [maxLen]
  have hby:(0+0)*272≤140737488355328:=by omega
  have hlen:([]:List Value).length=0*18:=by simp
  have Hi:=Lib.hid (show Tryz.prog.info? 45=some i0∧i0.zero=some _∧i0.size=18∧i0.bytes=272 from ⟨hi,hz0,hz1,hz2⟩)
  have Hw:=Lib.hid (And.intro hown (And.intro hnews (And.intro hone (And.intro h63 (And.intro hby hlen)))))
  clear hnews hone hown hi hz0 hz1 hz2 h63 hby hlen
  go_enter Tryz.func13,Tryz.ntmps13
  go_wp2_with (at_builtin; refine wpList_append_own _ rfl _ _ 26 rfl w.heap.size 45 i0 _ 18 272 Tryz.underlying26 Hi.out.1 Hi.out.2.1 Hi.out.2.2.1 Hi.out.2.2.2 rfl (by omega) (.slice (some ⟨w.heap.size,0,none⟩) 0 0) 0 [] rfl Hw.out.1 ad 0 cap [] rfl Hw.out.2.2.2.2.2 Hw.out.2.1 Hw.out.2.2.1 Hw.out.2.2.2.1 Hw.out.2.2.2.2.1 (by simp) ?_; intro v1 w1 ho hg hn; have Ho:=Lib.hid ho; have Hg:=Lib.hid hg; have Hn:=Lib.hid hn; clear ho hg hn)
  go_ret
  exact ⟨v1,rfl,by have:=Ho.out; simpa using this,((Below.refl _ _).alloc (Nat.le_refl _) _).grown Hg.out (by simp) (by simp [Value.ownBlock])⟩
theorem cloneN_K:∀(f:Bool),ConP Tryz.prog 13 [.lst 18 f []] fun r=>r = .lst 18 false []:=fun f=>by
 have hO:ConO Tryz.prog 13 [.lst 18 f []] fun e z ys=>e=45∧z=18∧ys=[]:=conO_row0 ⟨Tryz.f13,Tryz.func13,rfl,rfl⟩ (fun F w vals hsz hrel=>by
  obtain ⟨u0,rfl⟩:∃u0,vals = #[u0]:=by
   obtain ⟨l⟩:=vals
   match l,hsz with
   | [a],_=>exact ⟨a,rfl⟩
  have r0:=hrel 0 _ u0 rfl rfl
  cases r0
  refine (cloneE_K _ _ _).mono fun e' w' ⟨v,he,hown,hb⟩=>⟨v,he,hb,?_⟩
  obtain ⟨_,⟨hv,_⟩ | ⟨g,c,cur,hv,hg,hc,hn,hm,hs,_⟩⟩:=hown
  ·exact .inl hv
  ·exact .inr ⟨g,c,cur,hv,hg,hc,hm,hs⟩)
 refine ⟨hO.1,fun F w vals hZ hF hsz hrel=>((conP_of_conO hO).2 F w vals hZ hF hsz hrel).mono fun e w' ⟨u,r,h1,h2,h3,h4,e',z,ys,h5,h6,h7,h8⟩=>?_⟩
 subst h6; subst h7; subst h8
 exact ⟨u,r,h1,h2,h3,h4,h5⟩
theorem clone_K (l:List Cn) (f:Bool) (hl:l.length≤1000000):ConP Tryz.prog 13 [LCn f l] fun r=>r=LCn false l:=by
 cases l with
 | nil=>exact cloneN_K f
 | cons x xs =>
  have hl':xs.length≤1000000:=by simp only [List.length_cons] at hl; omega
  refine conP_of_conH (conH_of_W tok Tryz.func13 rfl rfl ?_)
  refine wx ?_
  simp -implicitDefEqProofs -dsimp [Tryz.f13,List.replicate,LCn,eqA2,capCn xs.length (by omega),encCn]
  exact exp_buf rfl (by simp) (by simp)
theorem cloneO0_R (f:Bool):ConO Tryz.prog 166 [.lst 2 f []] fun e z ys=>e=97∧z=2∧ys=[]:=conO_row0 ⟨Tryz.f166,Tryz.func166,rfl,rfl⟩ (fun F w vals hsz hrel=>by
  obtain ⟨u0,rfl⟩:∃u0,vals = #[u0]:=by
   obtain ⟨l⟩:=vals
   match l,hsz with
   | [a],_=>exact ⟨a,rfl⟩
  have r0:=hrel 0 _ u0 rfl rfl
  cases r0
  refine (cloneE_R _ _ _).mono fun e' w' ⟨v,he,hown,hb⟩=>⟨v,he,hb,?_⟩
  obtain ⟨_,⟨hv,_⟩ | ⟨g,c,cur,hv,hg,hc,hn,hm,hs,_⟩⟩:=hown
  ·exact .inl hv
  ·exact .inr ⟨g,c,cur,hv,hg,hc,hm,hs⟩)
theorem cloneO_R (l:List Rw) (f:Bool) (hl:l.length≤1000000):ConO Tryz.prog 166 [.lst 2 f (l.map encRw)] fun e z ys=>e=97∧z=2∧ys=l.map encRw:=by
 cases l with
 | nil=>exact cloneO0_R f
 | cons x xs =>
  have hl':xs.length≤1000000:=by simp only [List.length_cons] at hl; omega
  refine conO_of_conH (conH_of_W tok Tryz.func166 rfl rfl ?_)
  refine wx ?_
  simp -implicitDefEqProofs -dsimp [Tryz.f166,List.replicate,eqA2,capRw xs.length (by omega),encRw]
  exact ⟨0,97,2,encRw x::xs.map encRw,by simp,rfl,by simp,rfl,rfl,rfl⟩
end
end Go.Proofs.YtfaleabndlcanaaGreatDoor
namespace Go.Proofs.YtfaleabndlcanaaGreatDoor
section
open Go Go.AM
theorem satisfied_u (al:List At) (rs:List Rw) (f g:Bool) (h:∀a∈al,AtOk rs a) (hl:rs.length≤1000000) (ha:al.length≤1000000):ConP Tryz.prog 163 [LR g rs,LA f al] fun r=>r = .bool (al.all (atS rs)):=by
 obtain ⟨E,hE⟩:∃E,E=al.all (atS rs):=⟨_,rfl⟩
 rw [←hE]
 refine conP_of_conH (conH_of_W tok Tryz.func163 rfl rfl ?_)
 refine wx ?_
 simp -implicitDefEqProofs -dsimp [Tryz.f163,List.replicate,LA,LR]
 refine lw_of (W_loopM 45 [4,6,7,8,11,12,13,14,15,16,17,18,19,20,21,22,23,24,25,26,27,28,29,30,31,32,33,34,35,36,37,38,39,40,41,42,43,44] (by simp [mB]<;>rfl) (σ:=Nat) (fun i=>(al.drop i).all (atS rs)=E) (fun i=>al.length - i) (fun i=>[(11,.int .i64 i)]) (fun _=>[]) 0 (by rw [hE,List.drop_zero]) (by simp) (by simp) (by simp) ?_)
 intro i hx N Q hN hQ
 by_cases hb:i<al.length
 ·rw [List.drop_eq_getElem_cons hb,List.all_cons] at hx
  have hk:=h _ (List.getElem_mem hb)
  obtain ⟨a,hae⟩:∃a,a=al[i]:=⟨_,rfl⟩
  rw [←hae] at hx hk
  have c1:=get_u a.l rs g hk.l hl
  have c2:=get_u a.r rs g hk.r hl
  have c3:=valueCompare (tmV rs a.l) (tmV rs a.r)
  simp only [encTm,encV,LR] at c1 c2 c3
  have h1:=hk.lo
  have h2:=hk.hi
  obtain ⟨q,hq⟩:∃q,q=cmpV (tmV rs a.l) (tmV rs a.r):=⟨_,rfl⟩
  unfold atS at hx
  rw [←hq] at c3 hx
  have fin:∀b:Bool,(b&&(al.drop (i+1)).all (atS rs))=E→(b=true→(al.drop (i+1)).all (atS rs)=E)∧(b=false→E=false):=fun b hb2=>by
   cases b
   ·exact ⟨fun h=>(by cases h),fun _=>(by simpa using hb2.symm)⟩
   ·exact ⟨fun _=>(by simpa using hb2),fun h=>(by cases h)⟩
  by_cases e1:a.op=1
  ·rw [if_pos e1] at hx
   obtain ⟨f1,f2⟩:=fin _ hx
   by_cases e0:q=0
   ·refine wx ?_
    simp -implicitDefEqProofs -dsimp [hb,hae.symm,encAt,e1]
    refine .inr ⟨stop_of (by kernel_rfl),?_⟩
    refine cy_of _ (callP (c1) (by simp)) ?_
    simp -implicitDefEqProofs -dsimp []
    refine cy_of _ (callP (c2) (by simp)) ?_
    simp -implicitDefEqProofs -dsimp []
    refine cy_of _ (callP (c3) (by simp)) ?_
    simp -implicitDefEqProofs -dsimp [e1,e0,wrapS i (by omega)]
    refine hN (i+1) _ _ (f1 (by simp [e0])) (by omega) (by simp) ⟨_,rfl⟩ (by simp) (by simp)
   ·refine wx ?_
    simp -implicitDefEqProofs -dsimp [hb,hae.symm,encAt,e1]
    refine .inr ⟨stop_of (by kernel_rfl),?_⟩
    refine cy_of _ (callP (c1) (by simp)) ?_
    simp -implicitDefEqProofs -dsimp []
    refine cy_of _ (callP (c2) (by simp)) ?_
    simp -implicitDefEqProofs -dsimp []
    refine cy_of _ (callP (c3) (by simp)) ?_
    simp -implicitDefEqProofs -dsimp [e1,e0]
    refine hQ _ _ _ ?_
    simp -implicitDefEqProofs -dsimp []
    rw [f2 (by simp [e0])]
  rw [if_neg e1] at hx
  by_cases e2:a.op=2
  ·rw [if_pos e2] at hx
   obtain ⟨f1,f2⟩:=fin _ hx
   by_cases e0:q=0
   ·refine wx ?_
    simp -implicitDefEqProofs -dsimp [hb,hae.symm,encAt,e2]
    refine .inr ⟨stop_of (by kernel_rfl),?_⟩
    refine cy_of _ (callP (c1) (by simp)) ?_
    simp -implicitDefEqProofs -dsimp []
    refine cy_of _ (callP (c2) (by simp)) ?_
    simp -implicitDefEqProofs -dsimp []
    refine cy_of _ (callP (c3) (by simp)) ?_
    simp -implicitDefEqProofs -dsimp [e2,e0]
    refine hQ _ _ _ ?_
    simp -implicitDefEqProofs -dsimp []
    rw [f2 (by simp [e0])]
   ·refine wx ?_
    simp -implicitDefEqProofs -dsimp [hb,hae.symm,encAt,e2]
    refine .inr ⟨stop_of (by kernel_rfl),?_⟩
    refine cy_of _ (callP (c1) (by simp)) ?_
    simp -implicitDefEqProofs -dsimp []
    refine cy_of _ (callP (c2) (by simp)) ?_
    simp -implicitDefEqProofs -dsimp []
    refine cy_of _ (callP (c3) (by simp)) ?_
    simp -implicitDefEqProofs -dsimp [e2,e0,wrapS i (by omega)]
    refine hN (i+1) _ _ (f1 (by simp [e0])) (by omega) (by simp) ⟨_,rfl⟩ (by simp) (by simp)
  rw [if_neg e2] at hx
  by_cases e3:a.op=3
  ·rw [if_pos e3] at hx
   obtain ⟨f1,f2⟩:=fin _ hx
   by_cases e0:q<0
   ·refine wx ?_
    simp -implicitDefEqProofs -dsimp [hb,hae.symm,encAt,e3]
    refine .inr ⟨stop_of (by kernel_rfl),?_⟩
    refine cy_of _ (callP (c1) (by simp)) ?_
    simp -implicitDefEqProofs -dsimp []
    refine cy_of _ (callP (c2) (by simp)) ?_
    simp -implicitDefEqProofs -dsimp []
    refine cy_of _ (callP (c3) (by simp)) ?_
    simp -implicitDefEqProofs -dsimp [e3,e0,wrapS i (by omega)]
    refine hN (i+1) _ _ (f1 (by simp [e0])) (by omega) (by simp) ⟨_,rfl⟩ (by simp) (by simp)
   ·refine wx ?_
    simp -implicitDefEqProofs -dsimp [hb,hae.symm,encAt,e3]
    refine .inr ⟨stop_of (by kernel_rfl),?_⟩
    refine cy_of _ (callP (c1) (by simp)) ?_
    simp -implicitDefEqProofs -dsimp []
    refine cy_of _ (callP (c2) (by simp)) ?_
    simp -implicitDefEqProofs -dsimp []
    refine cy_of _ (callP (c3) (by simp)) ?_
    simp -implicitDefEqProofs -dsimp [e3,e0]
    refine hQ _ _ _ ?_
    simp -implicitDefEqProofs -dsimp []
    rw [f2 (by simp [e0])]
  rw [if_neg e3] at hx
  have e4:a.op=4:=by omega
  obtain ⟨f1,f2⟩:=fin _ hx
  by_cases e0:q≤0
  ·refine wx ?_
   simp -implicitDefEqProofs -dsimp [hb,hae.symm,encAt,e4]
   refine .inr ⟨stop_of (by kernel_rfl),?_⟩
   refine cy_of _ (callP (c1) (by simp)) ?_
   simp -implicitDefEqProofs -dsimp []
   refine cy_of _ (callP (c2) (by simp)) ?_
   simp -implicitDefEqProofs -dsimp []
   refine cy_of _ (callP (c3) (by simp)) ?_
   simp -implicitDefEqProofs -dsimp [e4,e0,wrapS i (by omega)]
   refine hN (i+1) _ _ (f1 (by simp [e0])) (by omega) (by simp) ⟨_,rfl⟩ (by simp) (by simp)
  ·refine wx ?_
   simp -implicitDefEqProofs -dsimp [hb,hae.symm,encAt,e4]
   refine .inr ⟨stop_of (by kernel_rfl),?_⟩
   refine cy_of _ (callP (c1) (by simp)) ?_
   simp -implicitDefEqProofs -dsimp []
   refine cy_of _ (callP (c2) (by simp)) ?_
   simp -implicitDefEqProofs -dsimp []
   refine cy_of _ (callP (c3) (by simp)) ?_
   simp -implicitDefEqProofs -dsimp [e4,e0]
   refine hQ _ _ _ ?_
   simp -implicitDefEqProofs -dsimp []
   rw [f2 (by simp [e0])]
 ·rw [List.drop_of_length_le (by omega)] at hx
  refine wx ?_
  simp -implicitDefEqProofs -dsimp [hb]
  refine hQ _ _ _ ?_
  simp -implicitDefEqProofs -dsimp []
  simpa using hx
theorem same_u (H:List B) (j:Nat) (r:Rw) (hj:H[j]?=some (.cells [.int .i64 r.id,.lst 3 false (r.vals.map encV)])) (hH:∀bl∈H,rbB H.length bl) (x:Rw) :
  WCall Tryz.prog (.fn 165 [.ptr j 0]) [encRw x] H fun a H'=>a = .bool (x.id == r.id)∧H'=H:=by
 have hlt:=getElem?_lt hj
 have hj2:∀y,(H++[y])[j]?=some (.cells [.int .i64 r.id,.lst 3 false (r.vals.map encV)]):=fun y=>by rw [List.getElem?_append_left hlt]; exact hj
 simp only [WCall,List.cons_append,List.nil_append]
 refine conH_cutZ ?_ (by simp [rb,rb1]) ⟨Nat.le_refl _,hH⟩
 refine conH_of_W tok Tryz.func165 rfl rfl ?_
 refine wx ?_
 simp -implicitDefEqProofs -dsimp [Tryz.f165,List.replicate,encRw,LV,hj2]
theorem conH_lf {P:Program} {f:FuncId} {args args':List V} {H:List B} {K:V→List B→Prop} (h:ConH P f args' H K) (hl:LfL args args'):ConH P f args H K :=
 ⟨h.1,fun s vals hA hg hsz hrel=>h.2 s vals hA hg (by rw [hsz,hl.len]) (fun i a u ha hu=>by
  have hlt:i<args.length:=by have:=getElem?_lt ha; rw [hl.len]; exact this
  exact lf_rel (hrel i _ u (List.getElem?_eq_getElem hlt) hu) (hl.at_ i _ a (List.getElem?_eq_getElem hlt) ha))⟩
theorem conH_frz {P:Program} {f:FuncId} {args args':List V} {H:List B} {K:V→List B→Prop} (k:Nat) {e z:Nat} {xs:List V} {fz:Bool} (hk:H[k]?=some (.buf e z xs fz)) (h:ConH P f args' (H.set k (.buf e z xs true)) K) (hr:RepF (.buf k 0 xs.length xs.length) (.lst z false xs) args args'):ConH P f args H K:=by
 refine ⟨h.1,fun s vals hA hg hsz hrel=>?_⟩
 obtain ⟨rfl,hZ⟩:=hA
 obtain ⟨p1,p2,_⟩:=frz_ok hg hk
 have hl:=hr.len
 refine (h.2 (s.frz k (.buf e z xs true)) vals ⟨rfl,hZ.step p2⟩ p1 (by omega) (fun i b u hb hu=>?_)).mono fun e' w' ⟨u,s',r,a1,a2,a3,a4,a5,a6⟩=>⟨u,s',r,a1,a2,a3,p2.trans a4,a5,a6⟩
 have hx:args[i]?=some (args[i]'(by have:=getElem?_lt hb; omega)):=List.getElem?_eq_getElem _
 exact frz_rep hg hk (hrel i _ u hx hu) (hr.at_ i _ b hx hb)
def Back (t:Tb) (d:Dn) (fv:V) (K:List (List Int)→List B) (m:Nat):Prop :=
 ∀(X:List B),(∀bl∈X,rbB (m+X.length) bl)→∀(rs:List Rw) (fl:Bool) (o:List (List Int)),rs.length=d.vars.toNat→(∀r∈rs,r∈t.rows)→o.length<20000→(∀l∈o,l.length=d.vars.toNat)→WCall Tryz.prog fv [LR fl rs] (K o++X) fun r H'=>r = .bool true∧H'=K (putN o (srt (idsR rs)))++X
theorem app0 {J:List B} {n:Nat} (h:J.length=n):∀x l,(J++x::l)[n]?=some x:=fun x l=>by subst h; simp
theorem app1 {J:List B} {n:Nat} (h:J.length=n):∀y x l,(J++y::x::l)[n+1]?=some x:=fun y x l=>by subst h; rw [List.getElem?_append_right (by omega)]; simp
theorem app2 {J:List B} {n:Nat} (h:J.length=n):∀z y x l,(J++z::y::x::l)[n+2]?=some x:=fun z y x l=>by subst h; rw [List.getElem?_append_right (by omega)]; simp
theorem rows_rb2 (n:Nat) (e:Nat) (ms:List Rw) (fz:Bool):rbB n (.buf e 2 (ms.map encRw) fz):=by
 intro x hx
 obtain ⟨y,_,rfl⟩:=List.mem_map.1 hx
 intro c hc
 simp only [encRw,V.cells,List.mem_cons,List.not_mem_nil,or_false] at hc
 rcases hc with rfl | rfl<;>simp [rb,rb1,LV]
theorem app3 {J:List B} {n:Nat} (h:J.length=n):∀w z y x l,(J++w::z::y::x::l)[n+3]?=some x:=fun w z y x l=>by subst h; rw [List.getElem?_append_right (by omega)]; simp
theorem set3 {J:List B} {n:Nat} (h:J.length=n):∀a b c x y,(J++[a,b,c,x]).set (n+3) y=J++[a,b,c,y]:=fun a b c x y=>by subst h; rw [List.set_append_right _ _ (by omega)]; simp
theorem rbM12 {n m:Nat} (h:n≤m) {v:V} (hv:rb1 n v):rb1 m v:=by
 cases v<;>simp only [rb1] at hv ⊢<;>first | exact hv | omega | trivial
theorem rbM2 {n m:Nat} (h:n≤m) {v:V} (hv:rb n v):rb m v:=by
 cases v<;>simp only [rb] at hv ⊢<;>first | exact rbM12 h hv | exact fun c hc=>rbM12 h (hv c hc) | trivial
theorem rbB_le2 {n m:Nat} (h:n≤m) {bl:B} (hb:rbB n bl):rbB m bl:=by
 cases bl with
 | cells cs=>exact fun c hc=>rbM2 h (hb c hc)
 | map kk es=>exact fun p hp=>⟨rbM2 h (hb p hp).1,rbM2 h (hb p hp).2⟩
 | buf e z xs fz=>exact fun x hx c hc=>rbM2 h (hb x hx c hc)
theorem rbs_app2 {H G:List B} (hH:∀bl∈H,rbB H.length bl) (hG:∀bl∈G,rbB (H.length+G.length) bl):∀bl∈H++G,rbB (H++G).length bl:=fun bl hb=>by
 rw [List.length_append]
 rcases List.mem_append.1 hb with h | h
 ·exact rbB_le2 (by omega) (hH bl h)
 ·exact hG bl h
theorem rbs_of {J X:List B} {m:Nat} (hl:J.length=m) (hJ:∀bl∈J,rbB m bl) (hX:∀bl∈X,rbB (m+X.length) bl):∀bl∈J++X,rbB (J++X).length bl:=by
 subst hl
 exact rbs_app2 hJ hX
def dcB (d:Dn) (f:Bool):B:=.cells [.int .i64 d.vars,.lst 11 f (d.atoms.map encAt)]
theorem dcB_rb (n:Nat) (d:Dn) (f:Bool):rbB n (dcB d f):=fun c hc=>by
 simp only [List.mem_cons,List.not_mem_nil,or_false] at hc
 rcases hc with rfl | rfl<;>simp [rb,rb1]
theorem visit_u (t:Tb) (d:Dn) (f g f2:Bool) (fv:V) (K:List (List Int)→List B) (m:Nat) (hKl:∀o,(K o).length=m) (hKr:∀o,∀bl∈K o,rbB m bl) (hfv:rb m fv) (hn:t.rows.length≤8) (ha:d.atoms.length≤1000000)
  (hat:∀rs,rs.length=d.vars.toNat→(∀r∈rs,r∈t.rows)→∀a∈d.atoms,AtOk rs a) (hv1:1≤d.vars) (hv3:d.vars≤3) (hB:Back t d fv K m) :
  ∀(k:Nat) (p:List Rw) (X:List B) (o:List (List Int)) (fl:Bool),k+p.length=d.vars.toNat→(∀r∈p,r∈t.rows)→(∀bl∈X,rbB (m+X.length) bl)→o.length+t.rows.length^k<20000→(∀l∈o,l.length=d.vars.toNat) →
   ConH Tryz.prog 128 [encTb f g t,encDn f2 d,LR fl p,fv] (K o++X) fun r H'=>r = .bool true∧H'=K (visF d t.rows k p o)++X:=by
 intro k
 induction k with
 | zero =>
  intro p X o fl hk hp hX ho hoL
  have hkp:p.length=d.vars.toNat:=by omega
  have hpl:(p.length:Int)=d.vars:=by omega
  have cs:=satisfied_u d.atoms p f2 fl (hat p hkp hp) (by omega) ha
  have hXX:∀bl∈X++[tcB t f g,dcB d f2],rbB (m+(X++[tcB t f g,dcB d f2]).length) bl:=fun bl hbl=>by
   rcases List.mem_append.1 hbl with h | h
   ·exact rbB_le2 (by simp<;>omega) (hX bl h)
   ·simp only [List.mem_cons,List.not_mem_nil,or_false] at h
    rcases h with rfl | rfl
    ·exact tcB_rb _ _ _ _
    ·exact dcB_rb _ _ _
  have hb:=hB _ hXX p fl o hkp hp (by omega) hoL
  rw [←List.append_assoc,←List.append_assoc] at hb
  have hJl:(K o++X).length=m+X.length:=by rw [List.length_append,hKl]
  refine conH_cutZ ?_ (by simp [rb,rb1]) ⟨by simp [hKl],rbs_of (hKl _) (hKr _) hX⟩
  unfold visF stV
  obtain ⟨J,hJ⟩:∃J,J=K o++X:=⟨_,rfl⟩
  rw [←hJ] at hb hJl ⊢
  obtain ⟨n,hnn⟩:∃n,n=m+X.length:=⟨_,rfl⟩
  rw [←hnn] at hJl
  have g0:=app0 hJl
  have g1:=app1 hJl
  simp only [LR,LA] at cs hb
  simp only [tcB,dcB] at hb
  cases hs:allS d p with
  | false =>
   rw [show d.atoms.all (atS p)=false from hs] at cs
   rw [if_neg (by simp)]
   refine conH_of_W tok Tryz.func128 rfl rfl ?_
   refine wx ?_
   simp -implicitDefEqProofs -dsimp [Tryz.f128,List.replicate,encTb,LR,LS,encDn,LA,hpl,hJl,g0,g1]
   refine (callP (cs) (by simp)).mono ?_
   rintro r H' ⟨rfl,rfl⟩
   simp -implicitDefEqProofs -dsimp []
   exact ⟨[tcB t f g,dcB d f2],by rw [hJ,List.append_assoc]; rfl⟩
  | true =>
   rw [show d.atoms.all (atS p)=true from hs] at cs
   rw [if_pos rfl]
   refine conH_of_W tok Tryz.func128 rfl rfl ?_
   refine wx ?_
   simp -implicitDefEqProofs -dsimp [Tryz.f128,List.replicate,encTb,LR,LS,encDn,LA,hpl,hJl,g0,g1]
   refine (callP (cs) (by simp)).mono ?_
   rintro r H' ⟨rfl,rfl⟩
   simp -implicitDefEqProofs -dsimp []
   refine hb.mono ?_
   rintro r H' ⟨rfl,rfl⟩
   simp -implicitDefEqProofs -dsimp []
   skip
 | succ k ih =>
  intro p X o fl hk hp hX ho hoL
  have hpn:¬(p.length:Int)=d.vars:=by omega
  have hpl:p.length≤3:=by omega
  obtain ⟨E,hE⟩:∃E,E=visF d t.rows (k+1) p o:=⟨_,rfl⟩
  rw [←hE]
  unfold visF at hE
  obtain ⟨R,hR⟩:∃R,R=t.rows:=⟨_,rfl⟩
  have htB:tcB t f g = .cells [.str t.name,.lst 1 f (t.attrs.map V.str),.lst 2 g (R.map encRw)]:=by rw [hR]; rfl
  rw [←hR] at hE hn
  obtain ⟨n,hnn⟩:∃n,n=m+X.length:=⟨_,rfl⟩
  refine conH_cutZ ?_ (by simp [rb,rb1]) ⟨by simp [hKl],rbs_of (hKl _) (hKr _) hX⟩
  obtain ⟨J,hJ⟩:∃J:List (List Int)→List B,J=fun o=>K o++X:=⟨_,rfl⟩
  have hJo:∀o,K o++X=J o:=fun o=>by rw [hJ]
  have hJl:∀o,(J o).length=n:=fun o=>by rw [←hJo,List.length_append,hKl,hnn]
  have hJr:∀o,∀bl∈J o,rbB n bl:=fun o=>by rw [←hJl o,←hJo]; exact rbs_of (hKl _) (hKr _) hX
  have hfn:rb n fv:=rbM2 (by omega) hfv
  have hf2:rb (n+2) fv:=rbM2 (by omega) hfn
  rw [hJo,hJo]
  have g0:=fun o=>app0 (hJl o)
  have g1:=fun o=>app1 (hJl o)
  have g2:=fun o=>app2 (hJl o)
  obtain ⟨tc,htc⟩:∃tc,tc=B.cells [.str t.name,.lst 1 f (t.attrs.map V.str),.lst 2 g (R.map encRw)]:=⟨_,rfl⟩
  obtain ⟨dc,hdc⟩:∃dc,dc=B.cells [.int .i64 d.vars,.lst 11 f2 (d.atoms.map encAt)]:=⟨_,rfl⟩
  have htr:∀n,rbB n tc:=fun n=>by rw [htc,←htB]; exact tcB_rb _ _ _ _
  have hdr:∀n,rbB n dc:=fun n=>by rw [hdc]; exact dcB_rb _ _ _
  have hrb2:∀o,∀bl∈J o++[tc,dc],rbB (J o++[tc,dc]).length bl:=fun o=>rbs_of (hJl o) (hJr o) (fun bl hbl=>by
   simp only [List.mem_cons,List.not_mem_nil,or_false] at hbl
   rcases hbl with rfl | rfl
   ·exact htr _
   ·exact hdr _)
  have hrb3:∀o r,∀bl∈J o++[tc,dc,rcB r],rbB (J o++[tc,dc,rcB r]).length bl:=fun o r=>rbs_of (hJl o) (hJr o) (fun bl hbl=>by
   simp only [List.mem_cons,List.not_mem_nil,or_false] at hbl
   rcases hbl with rfl | rfl | rfl
   ·exact htr _
   ·exact hdr _
   ·exact rcB_rb _ _)
  refine conH_of_W tok Tryz.func128 rfl rfl ?_
  refine wx ?_
  simp -implicitDefEqProofs -dsimp [Tryz.f128,List.replicate,encTb,LR,LS,encDn,LA,hpn,hJl,g0,g1,hR.symm]
  rw [←htc,←hdc]
  have g3:=fun o=>app3 (hJl o)
  have hset:=fun o=>set3 (hJl o)
  rw [←hR] at ho ih
  have ho':o.length+(R.length - 0)*R.length^k<20000:=by rw [Nat.sub_zero,Nat.mul_comm,←Nat.pow_succ]; exact ho
  have hpk:0≤R.length^k:=Nat.zero_le _
  refine lw_of (W_loopM 47 [8,10,29,30,31,32,33,34,35,36,37,38,39,40,41,42,43,44,45,46] (by simp [mB]<;>rfl) (σ:=Nat×List (List Int)) (fun q=>(R.drop q.1).foldl (fun o r=>if usedR p r then o else visF d R k (p++[r]) o) q.2=E∧q.2.length+(R.length - q.1)*R.length^k<20000∧∀l∈q.2,l.length=d.vars.toNat) (fun q=>R.length - q.1) (fun q=>[(29,.int .i64 q.1)]) (fun q=>J q.2++[tc,dc]) (0,o) ⟨hE.symm,ho',hoL⟩ (by simp) (by simp) (by simp [hJl]) ?_)
  rintro ⟨i,o2⟩ ⟨hx,hlt,hL2⟩ N Q hN hQ
  simp only at hx hlt hL2
  by_cases hb:i<R.length
  ·rw [List.drop_eq_getElem_cons hb,List.foldl_cons] at hx
   have hrm:=List.getElem_mem hb
   obtain ⟨r,hre⟩:∃r,r=R[i]:=⟨_,rfl⟩
   rw [←hre] at hx hrm
   have hmul:(R.length - i)*R.length^k=(R.length - (i+1))*R.length^k+R.length^k:=by rw [show R.length - i=(R.length - (i+1))+1 by omega,Nat.succ_mul]
   rw [hmul] at hlt
   have hc:=cont_R (J o2++[tc,dc,rcB r]) (.fn 165 [.ptr (n+2) 0]) (fun x=>x.id == r.id) p fl (by omega) (hrb3 o2 r) (by simp [rb,rb1,hJl]) (fun x _=>same_u _ _ r (g2 o2 tc dc (rcB r) []) (hrb3 o2 r) x)
   rw [show (p.any fun x=>x.id == r.id)=usedR p r from rfl] at hc
   simp only [LR,rcB] at hc
   cases hu:usedR p r with
   | true =>
    rw [hu] at hc hx
    rw [if_pos rfl] at hx
    refine wx ?_
    simp -implicitDefEqProofs -dsimp [hb,hre.symm,encRw,LV,hJl,g0,g1]
    refine WCall.mono (K:=fun r' H'=>r' = .bool true∧H'=J o2++[tc,dc,B.cells [.int .i64 r.id,.lst 3 false (r.vals.map encV)]]) hc ?_
    rintro r' H' ⟨rfl,rfl⟩
    simp -implicitDefEqProofs -dsimp [wrapS i (by omega)]
    refine hN (i+1,o2) _ _ ⟨hx,by simp only; omega,hL2⟩ (by simp only; omega) (by simp) ⟨[B.cells [.int .i64 r.id,.lst 3 false (r.vals.map encV)]],by simp⟩ (by simp [hJl]; exact hf2) (hrb2 _)
   | false =>
    rw [hu] at hc hx
    rw [if_neg (by simp)] at hx
    obtain ⟨o3,ho3⟩:∃o3,o3=visF d R k (p++[r]) o2:=⟨_,rfl⟩
    have hvl:=visF_len (d:=d) (R:=R) k (p++[r]) o2
    have hL3:∀l∈o3,l.length=d.vars.toNat:=fun l hl=>by
     rw [ho3] at hl
     rcases (visF_mem _ _ _ _).1 hl with h | ⟨q,h1,_,_,h4⟩
     ·exact hL2 l h
     ·rw [h4,srt_len,idsR_len,List.length_append,List.length_append,h1]; simp; omega
    rw [←ho3] at hx hvl
    have hge:o2.length+R.length^k<20000:=by omega
    have hv:=ih (p++[r]) (X++[tc,dc,rcB r,.buf 97 2 ((p++[r]).map encRw) true]) o2 false (by simp; omega) (fun x hx=>by
     rcases List.mem_append.1 hx with h | h
     ·rw [hR]; exact hp x h
     ·simp at h; subst h; exact hrm) (fun bl hbl=>by
     rcases List.mem_append.1 hbl with h | h
     ·exact rbB_le2 (by simp<;>omega) (hX bl h)
     ·simp only [List.mem_cons,List.not_mem_nil,or_false] at h
      rcases h with rfl | rfl | rfl | rfl
      ·exact htr _
      ·exact hdr _
      ·exact rcB_rb _ _
      ·exact rows_rb2 _ _ _ _) hge hL2
    rw [←ho3,←List.append_assoc,←List.append_assoc,hJo,hJo] at hv
    have hset2:=hset o2 tc dc (rcB r) (.buf 97 2 ((p++[r]).map encRw) false) (.buf 97 2 ((p++[r]).map encRw) true)
    rw [←hset2] at hv
    have hw:=conH_frz (args:=[encTb f g t,encDn f2 d,.buf (n+3) 0 (p.length+1) (p.length+1),fv]) (n+3) (g3 o2 tc dc (rcB r) (.buf 97 2 ((p++[r]).map encRw) false) []) hv (by simp [LR])
    have cc:=cloneO_R p fl (by omega)
    simp only [encTb,LR,LS,encDn,LA,←hR,rcB] at hw cc
    refine wx ?_
    simp -implicitDefEqProofs -dsimp [hb,hre.symm,encRw,LV,hJl,g0,g1]
    refine WCall.mono (K:=fun r' H'=>r' = .bool false∧H'=J o2++[tc,dc,B.cells [.int .i64 r.id,.lst 3 false (r.vals.map encV)]]) hc ?_
    rintro r' H' ⟨rfl,rfl⟩
    simp -implicitDefEqProofs -dsimp []
    have hset3:∀o b x y,(J o++[tc,dc,b,x]).set (n+3) y=J o++[tc,dc,b,y]:=fun o b x y=>hset o tc dc b x y
    refine lw_of (W_drawT tok mixed [3,6,8] [(0,[1,2]),(1,[1,2]),(4,[0]),(5,[0])] [(.buf (n+3) 0 p.length p.length,J o2++[tc,dc,B.cells [.int .i64 r.id,.lst 3 false (r.vals.map encV)],.buf 97 2 (p.map encRw) false]),(.bool true,J o3++[tc,dc,B.cells [.int .i64 r.id,.lst 3 false (r.vals.map encV)],.buf 97 2 ((p++[r]).map encRw) true])] (by kernel_rfl) fun C K hC hK=>?_)
    simp -implicitDefEqProofs [htc,hdc,hJl,g0,g1,g2,g3,hset,encRw,LV,capRw p.length (by omega),wrapN p.length (by omega)]
    simp only [htc,hdc,List.map_append,List.map_cons,List.map_nil,encRw,LV] at hw
    refine ⟨⟨hC _ _ _ _ ?_,hC _ _ _ _ ?_⟩,hK _ _ ?_⟩
    ·refine (callO cc (by simp)).mono ?_
     rintro r' H' ⟨e,z,xs,rfl,rfl,_,rfl,rfl,rfl⟩
     exact ⟨by simp [hJl],by simp⟩
    ·simp only [WCall,List.append_nil]
     exact hw
    ·simp -implicitDefEqProofs -dsimp [wrapS i (by omega)]
     refine hN (i+1,o3) _ _ ⟨hx,by simp only; omega,hL3⟩ (by simp only; omega) (by simp) ⟨[B.cells [.int .i64 r.id,.lst 3 false (r.vals.map encV)],.buf 97 2 ((p++[r]).map encRw) true],by simp [htc,hdc,encRw,LV]⟩ (by simp [hJl]; exact hf2) (hrb2 _)
  ·rw [List.drop_of_length_le (show R.length≤i by omega)] at hx
   have hx2:o2=E:=hx
   subst hx2
   refine wx ?_
   simp -implicitDefEqProofs -dsimp [hb]
   refine hQ _ _ _ ?_
   simp -implicitDefEqProofs -dsimp []
section
theorem getZ {α:Type} (l:List α) {i:Nat} (d:α) (h:i<l.length):l.getD i d=l[i]:=by simp [List.getD,h]
theorem rbsZ {H:List B} {k:Nat} {b:B} (hH:∀bl∈H,rbB H.length bl) (hb:rbB H.length b):∀bl∈H.set k b,rbB (H.set k b).length bl:=fun bl h=>by
 rw [List.length_set]
 rcases List.mem_or_eq_of_mem_set h with h | rfl
 ·exact hH bl h
 ·exact hb
theorem wcZ {P:Program} {f:FuncId} {args:List V} {H:List B} {K K':V→List B→Prop} (h:ConH P f args H K) (hk:∀r H',K r H'→K' r H'):WCall P (.fn f []) args H K':=by
 simp only [WCall,List.append_nil]
 exact h.mono hk
theorem wrapZ (n:Nat) (h:n<9223372036854775807):IntKind.i64.wrap (n:Int)=n:=wrap64 (by omega) (by omega)
def nzL (m:List Int):List V:=m.map encI
theorem nzL_len (m:List Int):(nzL m).length=m.length:=by simp [nzL]
theorem nzL_get {m:List Int} {x:Nat} (h:x<(nzL m).length):(nzL m)[x] = .int .i64 (m.getD x 0):=by
 have h2:x<m.length:=by rw [←nzL_len]; exact h
 simp [nzL,encI,h2]
theorem nzL_set (m:List Int) (x:Nat) (v:Int):(nzL m).set x (.int .i64 v)=nzL (m.set x v):=by
 unfold nzL
 rw [List.map_set]; rfl
theorem nzL_pure (m:List Int):∀x∈nzL m,AM.Pure x∧oneV x=true:=by simp [nzL,encI,oneV]
def swpZ (j:Nat) (l:List Int):List Int:=(l.set (j+1) (l.getD j 0)).set j (l.getD (j+1) 0)
def sinkZ (lt:Int→Int→Bool):Nat→List Int→List Int
 | 0,l=>l
 | j+1,l=>if lt (l.getD (j+1) 0) (l.getD j 0)=true then sinkZ lt j (swpZ j l) else l
def isZ (lt:Int→Int→Bool):Nat→Nat→List Int→List Int
 | 0,_,l=>l
 | r+1,i,l=>isZ lt r (i+1) (sinkZ lt i l)
theorem swpZ_len (j:Nat) (l:List Int):(swpZ j l).length=l.length:=by simp [swpZ]
theorem swpZ_perm (j:Nat) (l:List Int) (h:j+1<l.length):(swpZ j l).Perm l:=by
 unfold swpZ
 rw [getZ l 0 h,getZ l 0 (show j<l.length by omega)]
 exact List.set_set_perm h (by omega)
theorem sinkZ_perm (lt:Int→Int→Bool):∀(j:Nat) (l:List Int),j<l.length→(sinkZ lt j l).Perm l
 | 0,l,_=>.refl _
 | j+1,l,h=>by
  rw [sinkZ]
  split
  ·exact (sinkZ_perm lt j (swpZ j l) (by rw [swpZ_len]; omega)).trans (swpZ_perm j l h)
  ·exact .refl _
theorem isZ_perm (lt:Int→Int→Bool):∀(r i:Nat) (l:List Int),i+r≤l.length→(isZ lt r i l).Perm l
 | 0,_,l,_=>.refl _
 | r+1,i,l,h=>by
  rw [isZ]
  have h1:=sinkZ_perm lt i l (by omega)
  exact (isZ_perm lt r (i+1) _ (by rw [h1.length_eq]; omega)).trans h1
def inzZ (x:Int):List Int→List Int
 | []=>[x]
 | y::rp=>if x<y then inzZ x rp++[y] else rp.reverse++[y,x]
def ltZ (a b:Int):Bool:=decide (a<b)
theorem sinkZ_ins (x:Int):∀(rp post:List Int),sinkZ ltZ rp.length (rp.reverse++x::post)=inzZ x rp++post
 | [],post=>rfl
 | y::rp,post=>by
  have e:(y::rp).reverse++x::post=rp.reverse++y::x::post:=by simp
  rw [e,List.length_cons,sinkZ,inzZ]
  have g1:(rp.reverse++y::x::post).getD (rp.length+1) 0=x:=by
   simp [List.getD,List.getElem?_append_right]
  have g2:(rp.reverse++y::x::post).getD rp.length 0=y:=by
   simp [List.getD,List.getElem?_append_right]
  have g3:swpZ rp.length (rp.reverse++y::x::post)=rp.reverse++x::y::post:=by
   unfold swpZ
   rw [g1,g2,List.set_append_right _ _ (by simp),List.set_append_right _ _ (by simp)]
   simp
  rw [g1,g2,g3]
  by_cases h:x<y
  ·rw [if_pos (by simp [ltZ,h]),if_pos h,sinkZ_ins x rp (y::post)]; simp
  ·rw [if_neg (by simp [ltZ,h]),if_neg h]; simp
theorem inzZ_mem (x:Int):∀(rp:List Int) (z:Int),z∈inzZ x rp↔z=x∨z∈rp
 | [],z=>by simp [inzZ]
 | y::rp,z=>by
  rw [inzZ]
  split
  ·rw [List.mem_append,List.mem_singleton,List.mem_cons,inzZ_mem x rp z]
   constructor
   ·rintro ((h | h) | h)
    ·exact .inl h
    ·exact .inr (.inr h)
    ·exact .inr (.inl h)
   ·rintro (h | h | h)
    ·exact .inl (.inl h)
    ·exact .inr h
    ·exact .inl (.inr h)
  ·simp only [List.mem_append,List.mem_reverse,List.mem_cons,List.not_mem_nil,or_false]
   constructor
   ·rintro (h | h | h)<;>simp [h]
   ·rintro (h | h | h)<;>simp [h]
theorem inzZ_sorted (x:Int):∀rp:List Int,rp.reverse.Pairwise (·≤·)→(inzZ x rp).Pairwise (·≤·)
 | [],_=>by simp [inzZ]
 | y::rp,h=>by
  rw [List.reverse_cons,List.pairwise_append] at h
  obtain ⟨h1,_,h3⟩:=h
  rw [inzZ]
  split
  ·rename_i hx
   rw [List.pairwise_append]
   refine ⟨inzZ_sorted x rp h1,by simp,fun a ha b hb=>?_⟩
   rw [List.mem_singleton] at hb
   subst hb
   rcases (inzZ_mem x rp a).1 ha with rfl | ha
   ·omega
   ·exact h3 a (by simpa using ha) b (by simp)
  ·rename_i hx
   rw [List.pairwise_append]
   refine ⟨h1,by simp; omega,fun a ha b hb=>?_⟩
   have:=h3 a ha y (by simp)
   simp at hb
   rcases hb with rfl | rfl<;>omega
theorem isZ_sorted:∀(r i:Nat) (l:List Int),i+r=l.length→(l.take i).Pairwise (·≤·)→(isZ ltZ r i l).Pairwise (·≤·)
 | 0,i,l,h,hs=>by
  rw [isZ]
  rwa [List.take_of_length_le (by omega)] at hs
 | r+1,i,l,h,hs=>by
  rw [isZ]
  have hi:i<l.length:=by omega
  have e:l=(l.take i).reverse.reverse++l[i]::l.drop (i+1):=by
   rw [List.reverse_reverse,←List.drop_eq_getElem_cons hi,List.take_append_drop]
  have hl:(l.take i).reverse.length=i:=by simp; omega
  have hk:=sinkZ_ins l[i] (l.take i).reverse (l.drop (i+1))
  rw [hl,←e] at hk
  have hin:(inzZ l[i] (l.take i).reverse).length=i+1:=by
   have h1:=(sinkZ_perm ltZ i l hi).length_eq
   rw [hk,List.length_append,List.length_drop] at h1
   omega
  refine isZ_sorted r (i+1) _ (by rw [(sinkZ_perm ltZ i l hi).length_eq]; omega) ?_
  rw [hk,List.take_left' hin]
  exact inzZ_sorted _ _ (by rwa [List.reverse_reverse])
section
variable {H:List B} {k:Nat}
def SZ (H:List B) (k:Nat) (l:List Int):List B:=H.set k (.buf 2 1 (nzL l) false)
theorem SZ_at {H:List B} {k:Nat} (h:k<H.length) (l:List Int):(SZ H k l)[k]?=some (.buf 2 1 (nzL l) false):=by
 unfold SZ; rw [List.getElem?_set_self h]
theorem SZ_set (H:List B) (k:Nat) (l l':List Int):(SZ H k l).set k (.buf 2 1 (nzL l') false)=SZ H k l':=by
 unfold SZ; rw [List.set_set]
theorem SZ_len (H:List B) (k:Nat) (l:List Int):(SZ H k l).length=H.length:=by simp [SZ]
theorem SZ_rb {H:List B} (hH:∀bl∈H,rbB H.length bl) (k:Nat) (l:List Int):∀bl∈SZ H k l,rbB (SZ H k l).length bl:=rbsZ hH ((rbB_buf1 (nzL_pure l)).2 trivial)
theorem nan_Z (x:Int):ConP Tryz.prog 150 [.int .i64 x] fun r=>r = .bool false:=by
 refine conP_of_conH (conH_of_W tok Tryz.func150 rfl rfl ?_)
 refine wx ?_
 simp -implicitDefEqProofs -dsimp [Tryz.f150,List.replicate]
theorem less_Z (a b:Int):ConP Tryz.prog 96 [.int .i64 a,.int .i64 b] fun r=>r = .bool (ltZ a b):=by
 unfold ltZ
 by_cases h:a<b
 ·rw [decide_eq_true h]
  refine conP_of_conH (conH_of_W tok Tryz.func96 rfl rfl ?_)
  refine wx ?_
  simp -implicitDefEqProofs -dsimp [Tryz.f96,List.replicate]
  refine (callP (nan_Z a) (by simp)).mono ?_
  rintro r H' ⟨rfl,rfl⟩
  simp -implicitDefEqProofs -dsimp [h]
 ·rw [decide_eq_false h]
  refine conP_of_conH (conH_of_W tok Tryz.func96 rfl rfl ?_)
  refine wx ?_
  simp -implicitDefEqProofs -dsimp [Tryz.f96,List.replicate]
  refine (callP (nan_Z a) (by simp)).mono ?_
  rintro r H' ⟨rfl,rfl⟩
  simp -implicitDefEqProofs -dsimp [h]
theorem insOrdZ_h (hk:k<H.length) (hH:∀bl∈H,rbB H.length bl) (l:List Int) (n:Nat) (hn:l.length=n) (hn2:n≤1000000) :
  ConH Tryz.prog 193 [.buf k 0 n n,.int .i64 0,.int .i64 n] (SZ H k l) fun _ H'=>H'=SZ H k (isZ ltZ (n - 1) 1 l):=by
 obtain ⟨S,hS⟩:∃S,S=isZ ltZ (n - 1) 1 l:=⟨_,rfl⟩
 rw [←hS]
 have w1:IntKind.i64.wrap (1:Int)=1:=wrap64 (by omega) (by omega)
 refine conH_of_W tok Tryz.func193 rfl rfl ?_
 refine wx ?_
 simp -implicitDefEqProofs -dsimp [Tryz.f193,List.replicate,w1]
 refine lw_of (W_loopM 49 [6,7,10,11,12,13,14,15,16,17,18,19,20,21,22,23,24,25,26,27,28,29,30,31,32,33,34,35,36,37,38,39,40,41,42,43,44,45,46,47,48] (by simp [mB]<;>rfl) (σ:=Nat×List Int) (fun p=>1≤p.1∧p.1≤n+1∧p.2.length=n∧isZ ltZ (n - p.1) p.1 p.2=S) (fun p=>n+1 - p.1) (fun p=>[(6,.int .i64 p.1)]) (fun p=>SZ H k p.2) (1,l) ⟨by simp,by simp,hn,hS.symm⟩ (by simp) (by simp) (by simp [SZ_len]) ?_)
 rintro ⟨i,l1⟩ ⟨hi,hi2,hl1,hx⟩ N Q hN hQ
 simp only at hi hi2 hl1 hx hN
 by_cases hb:i<n
 ·rw [show n - i=(n - (i+1))+1 by omega,isZ] at hx
  refine wx ?_
  simp -implicitDefEqProofs -dsimp [hb]
  refine lw_of (W_loopM 49 [7,16,17,18,19,20,21,22,23,24,25,26,27,28,29,30,31,32,33,34,35,36,37,38,39,40,41,42,43,44,45,46,47,48] (by simp [mB]<;>rfl) (σ:=Nat×List Int) (fun p=>p.1≤i∧p.2.length=n∧sinkZ ltZ p.1 p.2=sinkZ ltZ i l1) (fun p=>p.1) (fun p=>[(7,.int .i64 p.1)]) (fun p=>SZ H k p.2) (i,l1) ⟨by simp,hl1,rfl⟩ (by simp) (by simp) (by simp [SZ_len]) ?_)
  rintro ⟨j,l2⟩ ⟨hj,hl2,hy⟩ N2 Q2 hN2 hQ2
  simp only at hj hl2 hy hN2
  have g9:=SZ_at hk l2
  have hnl:=nzL_len l2
  cases j with
  | zero =>
   rw [sinkZ] at hy
   refine wx ?_
   simp -implicitDefEqProofs -dsimp []
   refine .inr ⟨stop_of (by kernel_rfl),?_⟩
   refine hQ2 _ _ _ ?_
   simp -implicitDefEqProofs -dsimp [wrapS i (by omega)]
   refine hN (i+1,l2) _ _ ⟨by simp only; omega,by simp only; omega,hl2,by rw [hy]; exact hx⟩ (by simp only; omega) (by simp) ⟨[],by simp⟩ (by simp [SZ_len]; exact hk) (SZ_rb hH k l2)
  | succ j =>
   rw [sinkZ] at hy
   have a1:=fun h=>nzL_get (m:=l2) (x:=j+1) h
   have a0:=fun h=>nzL_get (m:=l2) (x:=j) h
   have wj:IntKind.i64.wrap (((j:Int)+1) - 1)=(j:Int):=by rw [wrap64 (by omega) (by omega)]; omega
   have wj2:IntKind.i64.wrap (j:Int)=(j:Int):=wrapZ j (by omega)
   have hj1:j+1<n:=by omega
   have hj0:j<n:=by omega
   obtain ⟨x,hxx⟩:∃x,x=l2.getD (j+1) 0:=⟨_,rfl⟩
   obtain ⟨y,hyy⟩:∃y,y=l2.getD j 0:=⟨_,rfl⟩
   rw [←hxx,←hyy] at hy
   rw [←hxx] at a1
   rw [←hyy] at a0
   have cl:=less_Z x y
   cases hq:ltZ x y with
   | true =>
    rw [hq] at cl
    rw [if_pos hq] at hy
    refine wx ?_
    simp -implicitDefEqProofs -dsimp [g9,hnl,hl2,hj1,hj0,a1,a0,wj,wj2,show (0:Int)≤(j:Int)+1 by omega,show (j:Int)+1<(n:Int) by omega]
    refine .inr ⟨stop_of (by kernel_rfl),?_⟩
    refine cy_of _ (callP (cl) (by simp)) ?_
    simp -implicitDefEqProofs -dsimp []
    have hsw:swpZ j l2=(l2.set (j+1) y).set j x:=by unfold swpZ; rw [←hxx,←hyy]
    have hst1:(nzL l2).set (j+1) (.int .i64 y)=nzL (l2.set (j+1) y):=nzL_set l2 (j+1) y
    have hst2:(nzL (l2.set (j+1) y)).set j (.int .i64 x)=nzL (swpZ j l2):=by rw [hsw]; exact nzL_set _ j x
    have q9:=SZ_at hk (l2.set (j+1) y)
    have qs1:=SZ_set H k l2 (l2.set (j+1) y)
    have qs2:=SZ_set H k (l2.set (j+1) y) (swpZ j l2)
    have qnl:=nzL_len (l2.set (j+1) y)
    rw [List.length_set] at qnl
    have b0:=fun h=>nzL_get (m:=l2.set (j+1) y) (x:=j) h
    refine lw_of (W_drawT tok mixed [15,17] [(2,[1]),(3,[1]),(4,[1])] [] (by kernel_rfl) fun C K hC hK=>?_)
    simp -implicitDefEqProofs [g9,hnl,hl2,hj1,hj0,a1,a0,wj,wj2,hst1,hst2,q9,qs1,qs2,qnl,b0,show (0:Int)≤(j:Int)+1 by omega,show (j:Int)+1<(n:Int) by omega]
    refine hK _ _ ?_
    simp -implicitDefEqProofs -dsimp [wj,wj2]
    refine hN2 (j,swpZ j l2) _ _ ⟨by simp only; omega,by rw [swpZ_len]; exact hl2,hy⟩ (by simp only; omega) (by simp) ⟨[],by simp⟩ (by simp [SZ_len]; exact hk) (SZ_rb hH k _)
   | false =>
    rw [hq] at cl
    rw [if_neg (by rw [hq]; simp)] at hy
    refine wx ?_
    simp -implicitDefEqProofs -dsimp [g9,hnl,hl2,hj1,hj0,a1,a0,wj,wj2,show (0:Int)≤(j:Int)+1 by omega,show (j:Int)+1<(n:Int) by omega]
    refine .inr ⟨stop_of (by kernel_rfl),?_⟩
    refine cy_of _ (callP (cl) (by simp)) ?_
    simp -implicitDefEqProofs -dsimp []
    refine hQ2 _ _ _ ?_
    simp -implicitDefEqProofs -dsimp [wrapS i (by omega)]
    refine hN (i+1,l2) _ _ ⟨by simp only; omega,by simp only; omega,hl2,by rw [hy]; exact hx⟩ (by simp only; omega) (by simp) ⟨[],by simp⟩ (by simp [SZ_len]; exact hk) (SZ_rb hH k l2)
 ·rw [show n - i=0 by omega,isZ] at hx
  subst hx
  refine wx ?_
  simp -implicitDefEqProofs -dsimp [hb]
  refine hQ _ _ _ ?_
  simp -implicitDefEqProofs -dsimp []
end
theorem bitsLenZ (n:Nat) (h:n≤12):∃v:Int,ConP Tryz.prog 133 [.int .u64 (n:Int)] fun r=>r = .int .i64 v :=
 match n,h with
 | 0,_=>⟨0,closed_conT tok mixed named ext_ok (fuel:=1000) (d:=40) (by kernel_rfl) (by simp)⟩
 | 1,_=>⟨1,closed_conT tok mixed named ext_ok (fuel:=1000) (d:=40) (by kernel_rfl) (by simp)⟩
 | 2,_=>⟨2,closed_conT tok mixed named ext_ok (fuel:=1000) (d:=40) (by kernel_rfl) (by simp)⟩
 | 3,_=>⟨2,closed_conT tok mixed named ext_ok (fuel:=1000) (d:=40) (by kernel_rfl) (by simp)⟩
 | 4,_=>⟨3,closed_conT tok mixed named ext_ok (fuel:=1000) (d:=40) (by kernel_rfl) (by simp)⟩
 | 5,_=>⟨3,closed_conT tok mixed named ext_ok (fuel:=1000) (d:=40) (by kernel_rfl) (by simp)⟩
 | 6,_=>⟨3,closed_conT tok mixed named ext_ok (fuel:=1000) (d:=40) (by kernel_rfl) (by simp)⟩
 | 7,_=>⟨3,closed_conT tok mixed named ext_ok (fuel:=1000) (d:=40) (by kernel_rfl) (by simp)⟩
 | 8,_=>⟨4,closed_conT tok mixed named ext_ok (fuel:=1000) (d:=40) (by kernel_rfl) (by simp)⟩
 | 9,_=>⟨4,closed_conT tok mixed named ext_ok (fuel:=1000) (d:=40) (by kernel_rfl) (by simp)⟩
 | 10,_=>⟨4,closed_conT tok mixed named ext_ok (fuel:=1000) (d:=40) (by kernel_rfl) (by simp)⟩
 | 11,_=>⟨4,closed_conT tok mixed named ext_ok (fuel:=1000) (d:=40) (by kernel_rfl) (by simp)⟩
 | 12,_=>⟨4,closed_conT tok mixed named ext_ok (fuel:=1000) (d:=40) (by kernel_rfl) (by simp)⟩
 | n+13,h=>by omega
section
variable {H:List B} {k:Nat}
theorem sortZ_h (hk:k<H.length) (hH:∀bl∈H,rbB H.length bl) (l:List Int) (n:Nat) (hn:l.length=n) (hn2:n≤12) :
  ConH Tryz.prog 130 [.buf k 0 n n] (SZ H k l) fun _ H'=>H'=SZ H k (isZ ltZ (n - 1) 1 l):=by
 obtain ⟨v,hv⟩:=bitsLenZ n hn2
 have c1:=insOrdZ_h hk hH l n hn (by omega)
 have c2:ConH Tryz.prog 167 [.buf k 0 n n,.int .i64 0,.int .i64 n,.int .i64 v] (SZ H k l) fun _ H'=>H'=SZ H k (isZ ltZ (n - 1) 1 l):=by
  have w0:IntKind.i64.wrap (n:Int)=n:=wrapZ n (by omega)
  refine conH_of_W tok Tryz.func167 rfl rfl ?_
  refine wx ?_
  simp -implicitDefEqProofs -dsimp [Tryz.f167,List.replicate]
  refine lw_of (W_loopM 134 [1,2,3,8,9,10,11,12,13,14,15,16,17,18,19,20,21,22,23,24,25,26,27,28,29,30,31,32,33,34,35,36,37,38,39,40,41,42,43,44,45,46,47,48,49,50,51,52,53,54,55,56,57,58,59,60,61,62,63,64,65,66,67,68,69,70,71,72,73,74,75,76,77,78,79,80,81,82,83,84,85,86,87,88,89,90,91,92,93,94,95,96,97,98,99,100,101,102,103,104,105,106,107,108,109,110,111,112,113,114,115,116,117,118,119,120,121,122,123,124,125,126,127,128,129,130,131,132,133] (by simp [mB]<;>rfl) (σ:=Nat) (fun p=>p=0) (fun p=>0) (fun _=>[(8,.bool true),(9,.bool true),(1,.int .i64 0),(2,.int .i64 n),(3,.int .i64 v)]) (fun _=>SZ H k l) 0 rfl (by simp) (by simp) (by simp) ?_)
  rintro p rfl N Q hN hQ
  refine wx ?_
  simp -implicitDefEqProofs -dsimp [w0,show (n:Int)≤12 by omega,show n≤12 by omega]
  refine wcZ c1 ?_
  rintro _ _ rfl
  simp -implicitDefEqProofs -dsimp []
  refine hQ _ _ _ ?_
  simp -implicitDefEqProofs -dsimp []
 have wu:IntKind.u64.wrap (n:Int)=(n:Int):=by rw [IntKind.wrap_u64]; omega
 have g9:=SZ_at hk l
 have hnl:=nzL_len l
 refine conH_of_W tok Tryz.func130 rfl rfl ?_
 refine wx ?_
 simp -implicitDefEqProofs -dsimp [Tryz.f130,List.replicate,g9,hnl,hn,wu]
 refine (callP hv (by simp)).mono ?_
 rintro r H' ⟨rfl,rfl⟩
 simp -implicitDefEqProofs -dsimp []
 refine wcZ c2 ?_
 rintro _ _ rfl
 simp -implicitDefEqProofs -dsimp []
end
end
section
def key3 (l:List Int):V:=.agg [.int .i64 (l.getD 0 0),.int .i64 (l.getD 1 0),.int .i64 (l.getD 2 0)]
def mK (o:List (List Int)):List (V×V):=o.map fun l=>(key3 l,.bool true)
theorem mK_snoc (o:List (List Int)) (l:List Int):mK (o++[l])=mK o++[(key3 l,.bool true)]:=by simp [mK]
theorem key3_eq {a b:List Int} (h:a.length=b.length) (h3:a.length≤3):keyEqA (key3 a) (key3 b)=(a == b):=by
 match a,b,h,h3 with
 | [],[],_,_=>rfl
 | [x],[y],_,_=>simp [key3,keyEqA,eqIs]
 | [x,x2],[y,y2],_,_=>simp [key3,keyEqA,eqIs]
 | [x,x2,x3],[y,y2,y3],_,_=>simp [key3,keyEqA,eqIs]
theorem findK_no {m:Nat} {x:List Int} (hx:x.length=m) (hm:m≤3):∀(o:List (List Int)) (i:Nat),(∀l∈o,l.length=m)→x∉o→findA (key3 x) (mK o) i=none
 | [],_,_,_=>rfl
 | l::o,i,h,hn=>by
  have h1:=key3_eq (a:=x) (b:=l) (by rw [hx,h l (by simp)]) (by omega)
  have hne:¬x=l:=fun e=>hn (by rw [e]; simp)
  have h2:(x == l)=false:=by simpa using hne
  show (if keyEqA (key3 x) (key3 l)=true then some (i,V.bool true) else findA (key3 x) (mK o) (i+1))=none
  rw [h1,h2,if_neg (by simp)]
  exact findK_no hx hm o (i+1) (fun l' hl=>h l' (by simp [hl])) (fun e=>hn (by simp [e]))
theorem findK_yes {m:Nat} {x:List Int} (hx:x.length=m) (hm:m≤3):∀(o:List (List Int)) (i:Nat),(∀l∈o,l.length=m)→x∈o→∃j,findA (key3 x) (mK o) i=some (j,.bool true)∧i≤j∧o[j - i]?=some x
 | [],_,_,h=>by cases h
 | l::o,i,h,hn=>by
  have h1:=key3_eq (a:=x) (b:=l) (by rw [hx,h l (by simp)]) (by omega)
  by_cases he:x=l
  ·subst he
   refine ⟨i,?_,Nat.le_refl _,by simp⟩
   show (if keyEqA (key3 x) (key3 x)=true then some (i,V.bool true) else findA (key3 x) (mK o) (i+1))=_
   rw [h1,beq_self_eq_true,if_pos rfl]
  ·have h2:(x == l)=false:=by simpa using he
   obtain ⟨j,hj,hij,hg⟩:=findK_yes hx hm o (i+1) (fun l' hl=>h l' (by simp [hl])) (by
    rcases List.mem_cons.1 hn with e | e
    ·exact absurd e he
    ·exact e)
   refine ⟨j,?_,by omega,?_⟩
   ·show (if keyEqA (key3 x) (key3 l)=true then some (i,V.bool true) else findA (key3 x) (mK o) (i+1))=_
    rw [h1,h2,if_neg (by simp)]
    exact hj
   ·rw [show j - i=(j - (i+1))+1 by omega,List.getElem?_cons_succ]; exact hg
theorem mK_rb (n:Nat) (kk:KK) (o:List (List Int)):rbB n (.map kk (mK o)):=fun p hp=>by
 obtain ⟨x,_,rfl⟩:=List.mem_map.1 hp
 refine ⟨?_,by simp [rb,rb1]⟩
 intro c hc
 simp only [List.mem_cons,List.not_mem_nil,or_false] at hc
 rcases hc with rfl | rfl | rfl<;>simp [rb1]
def VK (tB dB:B) (μ:List (V×V)) (c:V) (xs:List V):List B:=[tB,dB,.map (.arr 3) μ,.cells [.map 2],.cells [c],.buf 46 1 xs false]
def VO (tB dB:B) (o:List (List Int)):List B:=VK tB dB (mK o) (.buf 5 0 o.length o.length) (o.map (L1 false))
theorem VO_rb {tB dB:B} (ht:∀n,rbB n tB) (hd:∀n,rbB n dB) (o:List (List Int)):∀bl∈VO tB dB o,rbB 6 bl:=fun bl hbl=>by
 unfold VO VK at hbl
 simp only [List.mem_cons,List.not_mem_nil,or_false] at hbl
 rcases hbl with rfl | rfl | rfl | rfl | rfl | rfl
 ·exact ht _
 ·exact hd _
 ·exact mK_rb _ _ _
 ·intro c hc; simp at hc; subst hc; simp [rb,rb1]
 ·intro c hc; simp at hc; subst hc; simp [rb,rb1]
 ·exact LF_rb _ _ _
section
variable {tB dB:B} {μ:List (V×V)} {c:V} {xs:List V}
theorem vk2 (l:List B):(VK tB dB μ c xs++l)[2]?=some (.map (.arr 3) μ):=rfl
theorem vk3 (l:List B):(VK tB dB μ c xs++l)[3]?=some (.cells [.map 2]):=rfl
theorem vk4 (l:List B):(VK tB dB μ c xs++l)[4]?=some (.cells [c]):=rfl
theorem vk5 (l:List B):(VK tB dB μ c xs++l)[5]?=some (.buf 46 1 xs false):=rfl
theorem vs2 (l:List B) (μ':List (V×V)):(VK tB dB μ c xs++l).set 2 (.map (.arr 3) μ')=VK tB dB μ' c xs++l:=rfl
theorem vs4 (l:List B) (c':V):(VK tB dB μ c xs++l).set 4 (.cells [c'])=VK tB dB μ c' xs++l:=rfl
theorem vs5 (l:List B) (xs':List V):(VK tB dB μ c xs++l).set 5 (.buf 46 1 xs' false)=VK tB dB μ c xs'++l:=rfl
theorem vt2 (μ':List (V×V)):(VK tB dB μ c xs).set 2 (.map (.arr 3) μ')=VK tB dB μ' c xs:=rfl
theorem vt4 (c':V):(VK tB dB μ c xs).set 4 (.cells [c'])=VK tB dB μ c' xs:=rfl
theorem vt5 (xs':List V):(VK tB dB μ c xs).set 5 (.buf 46 1 xs' false)=VK tB dB μ c xs':=rfl
theorem vkl:(VK tB dB μ c xs).length=6:=rfl
theorem vx0 {X:List B} {n:Nat} (h:n=6+X.length) (b:B) (l:List B):(VK tB dB μ c xs++(X++b::l))[n]?=some b:=by
 rw [←List.append_assoc]
 exact app0 (by rw [List.length_append,vkl,h]) b l
theorem vx1 {X:List B} {n:Nat} (h:n=6+X.length) (a b:B) (l:List B):(VK tB dB μ c xs++(X++a::b::l))[n+1]?=some b:=by
 rw [←List.append_assoc]
 exact app1 (by rw [List.length_append,vkl,h]) a b l
theorem vxs0 {X:List B} {n:Nat} (h:n=6+X.length) (b b':B) (l:List B):(VK tB dB μ c xs++(X++b::l)).set n b'=VK tB dB μ c xs++(X++b'::l):=by
 rw [←List.append_assoc,←List.append_assoc,List.set_append_right _ _ (by rw [List.length_append,vkl,h]; omega)]
 simp [vkl,h]
theorem vxs1 {X:List B} {n:Nat} (h:n=6+X.length) (a b b':B) (l:List B):(VK tB dB μ c xs++(X++a::b::l)).set (n+1) b'=VK tB dB μ c xs++(X++a::b'::l):=by
 rw [←List.append_assoc,←List.append_assoc,List.set_append_right _ _ (by rw [List.length_append,vkl,h]; omega)]
 simp [vkl,h]
end
theorem isZ_srt (l:List Int) (h:1≤l.length):isZ ltZ (l.length - 1) 1 l=srt l:=by
 refine srt_eq (isZ_perm _ _ _ _ (by omega)) (isZ_sorted _ _ _ (by omega) ?_)
 match l,h with
 | x::l,_=>simp
theorem list1 {l:List Int} (h:l.length=1):∃a,l=[a]:=by
 match l,h with
 | [a],_=>exact ⟨a,rfl⟩
theorem list2 {l:List Int} (h:l.length=2):∃a b,l=[a,b]:=by
 match l,h with
 | [a,b],_=>exact ⟨a,b,rfl⟩
theorem list3 {l:List Int} (h:l.length=3):∃a b c,l=[a,b,c]:=by
 match l,h with
 | [a,b,c],_=>exact ⟨a,b,c,rfl⟩
theorem back_u (t:Tb) (d:Dn) (tB dB:B) (ht:∀n,rbB n tB) (hd:∀n,rbB n dB) (hv1:1≤d.vars) (hv3:d.vars≤3):Back t d (.fn 129 [.ptr 3 0,.ptr 4 0]) (VO tB dB) 6:=by
 intro X hX rs fl o hrs _ ho hoL
 obtain ⟨n,hn⟩:∃n,n=6+X.length:=⟨_,rfl⟩
 have hXl:∀(μ:List (V×V)) (c:V) (xs:List V),(VK tB dB μ c xs++X).length=n:=fun μ c xs=>by rw [List.length_append,vkl,hn]
 have hrl:rs.length≤3:=by omega
 have hr1:1≤rs.length:=by omega
 obtain ⟨I,hI⟩:∃I,I=idsR rs:=⟨_,rfl⟩
 have hIl:I.length=rs.length:=by rw [hI,idsR_len]
 obtain ⟨S,hS⟩:∃S,S=srt I:=⟨_,rfl⟩
 have hSl:S.length=d.vars.toNat:=by rw [hS,srt_len,hIl,hrs]
 rw [←hI,←hS]
 have x0:=fun μ c xs b l=>vx0 (tB:=tB) (dB:=dB) (μ:=μ) (c:=c) (xs:=xs) hn b l
 have x1:=fun μ c xs a b l=>vx1 (tB:=tB) (dB:=dB) (μ:=μ) (c:=c) (xs:=xs) hn a b l
 have y0:=fun μ c xs b b' l=>vxs0 (tB:=tB) (dB:=dB) (μ:=μ) (c:=c) (xs:=xs) hn b b' l
 have y1:=fun μ c xs a b b' l=>vxs1 (tB:=tB) (dB:=dB) (μ:=μ) (c:=c) (xs:=xs) hn a b b' l
 have hO6:=VO_rb ht hd o
 have hrbx:∀b:B,(∀k,rbB k b)→∀bl∈VO tB dB o++(X++[b]),rbB (VO tB dB o++(X++[b])).length bl:=fun b hb=>by
  rw [←List.append_assoc]
  exact rbs_app2 (rbs_of rfl hO6 hX) (fun bl hbl=>by simp at hbl; subst hbl; exact hb _)
 have hbI:∀(e:Nat) (l:List Int) k,rbB k (.buf e 1 (l.map encI) false):=fun e l k=>(rbB_buf1 (fun x hx=>by obtain ⟨y,_,rfl⟩:=List.mem_map.1 hx; exact ⟨by simp,rfl⟩)).2 trivial
 have hsort:ConH Tryz.prog 130 [.buf n 0 rs.length rs.length] (VO tB dB o++(X++[.buf 2 1 (I.map encI) false])) fun _ H'=>H'=VO tB dB o++(X++[.buf 2 1 (S.map encI) false]):=by
  have h:=sortZ_h (H:=VO tB dB o++(X++[.buf 2 1 (I.map encI) false])) (k:=n) (by unfold VO; simp [vkl,hn]) (hrbx _ (hbI _ _)) I rs.length hIl (by omega)
  rw [←hIl,isZ_srt I (by omega),←hS] at h
  unfold SZ nzL VO at h
  rw [y0,y0] at h
  rw [←hIl]
  exact h
 simp only [WCall,List.cons_append,List.nil_append]
 have hO':∀o',(∀bl∈VO tB dB o',rbB 6 bl):=VO_rb ht hd
 refine conH_cutZ ?_ (by simp [rb,rb1]) ⟨by simp [VO,vkl],rbs_of rfl (hO' _) hX⟩
 refine conH_of_W tok Tryz.func129 rfl rfl ?_
 refine W_seq ?_
 refine wx ?_
 simp -implicitDefEqProofs -dsimp [Tryz.f129,List.replicate,LR]
 refine W_seq ?_
 refine wx ?_
 simp -implicitDefEqProofs -dsimp []
 refine W_seq ?_
 refine wx ?_
 simp -implicitDefEqProofs -dsimp []
 have fl0:(VO tB dB o++X).length=n:=hXl _ _ _
 have fx0:∀b l,(VO tB dB o++(X++b::l))[n]?=some b:=fun b l=>x0 _ _ _ b l
 have fy0:∀b b' l,(VO tB dB o++(X++b::l)).set n b'=VO tB dB o++(X++b'::l):=fun b b' l=>y0 _ _ _ b b' l
 have fl1:(VO tB dB o).length+X.length=n:=by rw [←fl0,List.length_append]
 refine lw_of (W_own 2 1 [5] (by simp) (W_loopM 21 [5,7,11,12,13,14,15,16,17,18,19,20] (by simp [mB]<;>rfl) (σ:=Nat) (fun i=>i≤rs.length) (fun i=>rs.length - i) (fun i=>[(11,.int .i64 i),(5,.buf n 0 i i)]) (fun i=>VO tB dB o++(X++[.buf 2 1 ((I.take i).map encI) false])) 0 (by omega) (by simp [fl1]) (by simp) (by simp) ?_))
 intro i hi N Q hN hQ
 have hti:(I.take i).length=i:=by simp; omega
 by_cases hb:i<rs.length
 ·have hbI2:i<I.length:=by omega
  obtain ⟨r,hre⟩:∃r,r=rs[i]:=⟨_,rfl⟩
  have hIi:I[i]=r.id:=by rw [hre]; simp [hI,idsR]
  have hts:I.take (i+1)=I.take i++[r.id]:=by rw [List.take_succ_eq_append_getElem hbI2,hIi]
  obtain ⟨J,hJ⟩:∃J,J=I.take i:=⟨_,rfl⟩
  rw [←hJ] at hti hts ⊢
  refine wx ?_
  simp -implicitDefEqProofs -dsimp [hb,hre.symm,encRw,LV,fx0,fy0,hti,cap8 i (by omega),wrapS i (by omega),fl1]
  refine hN (i+1) _ _ (by omega) (by omega) (by simp) ⟨[B.cells [.int .i64 r.id,.lst 3 false (r.vals.map encV)]],by simp [hts,encI]⟩ (by simp; omega) (hrbx _ (hbI _ _))
 ·obtain rfl:i=rs.length:=by omega
  rw [show I.take rs.length=I from List.take_of_length_le (by omega)]
  refine wx ?_
  simp -implicitDefEqProofs -dsimp [hb]
  refine hQ _ _ _ ?_
  simp -implicitDefEqProofs -dsimp []
  refine W_seq ?_
  refine wx ?_
  simp -implicitDefEqProofs -dsimp []
  refine wcZ hsort ?_
  rintro _ _ rfl
  simp -implicitDefEqProofs -dsimp []
  have hSr:S.length=rs.length:=by rw [hSl,hrs]
  refine W_frz n [5] (fx0 _ []) (by simp [hSr]) ?_
  rw [fy0]
  have h61:6+(X.length+1)=n+1:=by omega
  have h3:S.length=1∨S.length=2∨S.length=3:=by omega
  by_cases hin:S∈o
  ·obtain ⟨j,hj,_,_⟩:=findK_yes hSl (by omega) o 0 hoL hin
   have hpn:putN o S=o:=by unfold putN; rw [if_pos (by simpa using hin)]
   rw [hpn]
   clear hin hpn hsort hrbx hI hS hSl hSr
   rcases h3 with h3 | h3 | h3
   ·obtain ⟨a,rfl⟩:=list1 h3
    simp [key3] at hj
    refine wx ?_
    simp -implicitDefEqProofs -dsimp [copyA,encI,VO,vk2,vk3,vk4,vk5,x0,x1,y0,y1,hj,vkl,h61,show (o.length:Int)≤20000 by omega]
   ·obtain ⟨a,b,rfl⟩:=list2 h3
    simp [key3] at hj
    refine wx ?_
    simp -implicitDefEqProofs -dsimp [copyA,encI,VO,vk2,vk3,vk4,vk5,x0,x1,y0,y1,hj,vkl,h61,show (o.length:Int)≤20000 by omega]
   ·obtain ⟨a,b,c,rfl⟩:=list3 h3
    simp [key3] at hj
    refine wx ?_
    simp -implicitDefEqProofs -dsimp [copyA,encI,VO,vk2,vk3,vk4,vk5,x0,x1,y0,y1,hj,vkl,h61,show (o.length:Int)≤20000 by omega]
  ·have hj:=findK_no hSl (by omega) o 0 hoL hin
   have hpn:putN o S=o++[S]:=by unfold putN; rw [if_neg (by simpa using hin)]
   rw [hpn]
   clear hin hpn hsort hrbx hI hS hSl hSr
   rcases h3 with h3 | h3 | h3
   ·obtain ⟨a,rfl⟩:=list1 h3
    simp [key3] at hj
    refine wx ?_
    simp -implicitDefEqProofs -dsimp [copyA,encI,VO,vk2,vk3,vk4,vk5,vs2,vs4,vs5,vt2,vt4,vt5,x0,x1,y0,y1,hj,vkl,h61,cap24 o.length (by omega),wrapN o.length (by omega),show (o.length:Int)+1≤20000 by omega]
    exact ⟨_,by simp [VO,mK_snoc,key3,L1,encI]; rfl⟩
   ·obtain ⟨a,b,rfl⟩:=list2 h3
    simp [key3] at hj
    refine wx ?_
    simp -implicitDefEqProofs -dsimp [copyA,encI,VO,vk2,vk3,vk4,vk5,vs2,vs4,vs5,vt2,vt4,vt5,x0,x1,y0,y1,hj,vkl,h61,cap24 o.length (by omega),wrapN o.length (by omega),show (o.length:Int)+1≤20000 by omega]
    exact ⟨_,by simp [VO,mK_snoc,key3,L1,encI]; rfl⟩
   ·obtain ⟨a,b,c,rfl⟩:=list3 h3
    simp [key3] at hj
    refine wx ?_
    simp -implicitDefEqProofs -dsimp [copyA,encI,VO,vk2,vk3,vk4,vk5,vs2,vs4,vs5,vt2,vt4,vt5,x0,x1,y0,y1,hj,vkl,h61,cap24 o.length (by omega),wrapN o.length (by omega),show (o.length:Int)+1≤20000 by omega]
    exact ⟨_,by simp [VO,mK_snoc,key3,L1,encI]; rfl⟩
end
end
end Go.Proofs.YtfaleabndlcanaaGreatDoor
