/- JS11: own texts of this seat, joined by pack2.py: H4, H6, H7, Cl64, H13, H14, H15, Gr, GrN, CatN, H16, H17, H18, H19, OwB, H20, H22, H23, H21, H24, SB3, SB6, SB7, SB8, SB4, SB9, SB10, H25, SB11, SC1. -/
import Derived.Test.YtjogkbekekdkjaaGreatDoorJS10
import Derived.WalkKit
import Derived.Lib.Walk
import Derived.Lib.SliceRun
import Derived.Lib.AppendZerosOnto
import Derived.OwnWalk
set_option linter.unusedVariables false
set_option linter.unusedSimpArgs false
set_option maxRecDepth 100000
set_option maxHeartbeats 64000000
namespace Go.Proofs.YtjogkbekekdkjaaGreatDoor
section
open Go Go.AM
section
section
variable {H:List B} {k0 km:Nat} {f g:Bool} {ws:List Int} {es:List (List Nat)} {n:Nat} {m:List Nat} {lf:Int}
end
end
def encR (fl:Bool):Option (List Nde)→V
 | none=>.nilS
 | some l=>LNd fl l
@[simp] theorem encR_pure (fl:Bool) (o:Option (List Nde)):AM.Pure (encR fl o):=by cases o<;>simp [encR]
@[simp] theorem encR_oneV (fl:Bool) (o:Option (List Nde)):oneV (encR fl o)=true:=by cases o<;>rfl
def encHn (f g:Bool) (ws:List Int) (es:List (List Nat)):V:=.agg [L1 f ws,LLn g es]
@[simp] theorem encHn_pure (f g:Bool) (ws:List Int) (es:List (List Nat)):AM.Pure (encHn f g ws es):=by simp [encHn]
def cst (es:List (List Nat)):List (List Int):=es.map fun e=>e.map fun (v:Nat)=>(v:Int)
theorem LLi_cst (g:Bool) (es:List (List Nat)):LLi g (cst es)=LLn g es:=by
 simp [LLi,LLn,cst,L1,Ln,encI,eN,Function.comp_def]
theorem encHs_cst (f g:Bool) (ws:List Int) (es:List (List Nat)):encHs f g ws (cst es)=encHn f g ws es:=by
 unfold encHs encHn; rw [LLi_cst]
def validN (ws:List Int) (es:List (List Nat)):Int:=validH ws (cst es)
theorem edgeOk_iff (n:Nat):∀(e:List Nat) (last:Int),edgeOk n last (e.map fun (v:Nat)=>(v:Int))=true↔(∀v∈e,last<v∧v<n)∧e.Pairwise (· < ·)
 | [],last=>by simp [edgeOk]
 | v::e,last=>by
  rw [List.map_cons,edgeOk,Bool.and_eq_true,Bool.and_eq_true,edgeOk_iff n e v]
  simp only [decide_eq_true_eq,List.forall_mem_cons,List.pairwise_cons]
  constructor
  ·rintro ⟨⟨h1,h2⟩,h3,h4⟩
   exact ⟨⟨⟨h1,by omega⟩,fun u hu=>⟨by have:=(h3 u hu).1; omega,(h3 u hu).2⟩⟩,fun u hu=>by have:=(h3 u hu).1; omega,h4⟩
  ·rintro ⟨⟨⟨h1,h2⟩,h3⟩,h4,h5⟩
   exact ⟨⟨h1,by omega⟩,fun u hu=>⟨by have:=h4 u hu; omega,(h3 u hu).2⟩,h5⟩
theorem valid_hsb {ws:List Int} {es:List (List Nat)} : validN ws es=0↔HsB ws es:=by
 unfold validN validH
 constructor
 ·intro h
  split at h
  ·cases h
  ·rename_i h1
   split at h
   ·rename_i h2
    unfold restH at h
    split at h
    ·rename_i h3
     rw [List.all_eq_true] at h2 h3
     refine ⟨fun v hv=>?_,by omega,by simp [cst] at h1; omega,fun e he=>?_⟩
     ·have:=h2 _ (List.getElem_mem hv)
      rw [getD_lt' _ _ hv]
      simpa [wOk] using this
     ·have:=h3 (e.map fun (v:Nat)=>(v:Int)) (List.mem_map.2 ⟨e,he,rfl⟩)
      rw [eOk,Bool.and_eq_true,edgeOk_iff] at this
      exact ⟨by rintro rfl; simp at this,this.1.2,fun v hv=>(this.1.1 v hv).2⟩
    ·cases h
   ·cases h
 ·rintro ⟨h1,h2,h3,h4⟩
  rw [if_neg (by simp [cst]; omega),if_pos ?_,restH,if_pos ?_]
  ·rw [List.all_eq_true]
   intro x hx
   obtain ⟨e,he,rfl⟩:=List.mem_map.1 hx
   obtain ⟨e1,e2,e3⟩:=h4 e he
   rw [eOk,Bool.and_eq_true,edgeOk_iff]
   refine ⟨⟨fun v hv=>⟨by omega,e3 v hv⟩,e2⟩,?_⟩
   cases e with
   | nil=>exact absurd rfl e1
   | cons a b=>rfl
  ·rw [List.all_eq_true]
   intro w hw
   obtain ⟨i,hi,rfl⟩:=List.mem_iff_getElem.1 hw
   have:=h1 i hi
   rw [getD_lt' _ _ hi] at this
   simpa [wOk] using this
theorem hsValidN (ws:List Int) (es:List (List Nat)) (f g:Bool) (hl:∀e∈es,e.length≤1000000):ConP Tryz.prog 41 [encHn f g ws es] fun r=>r = .int .i64 (validN ws es):=by
 have:=hsValid ws (cst es) f g (fun e he=>by obtain ⟨e',h,rfl⟩:=List.mem_map.1 he; rw [List.length_map]; exact hl e' h)
 rwa [encHs_cst] at this
def checkG (ws:List Int) (es:List (List Nat)) (b:Int) (l:List Nde):Bool:=if validN ws es=0 then (if b < -1000000000000000∨1000000000000000<b then false else checkP ws es b l) else false
end
end Go.Proofs.YtjogkbekekdkjaaGreatDoor
section

end
namespace Go.Proofs.YtjogkbekekdkjaaGreatDoor
section
open Go Go.AM
section
section
variable {H:List B} {k0 km:Nat} {f g:Bool} {ws:List Int} {es:List (List Nat)} {n:Nat} {m:List Nat} {lf:Int}
end
end
section
section
variable {H:List B} {k0 km:Nat} {f g:Bool} {ws:List Int} {es:List (List Nat)} {n:Nat} {m:List Nat} {lf:Int}
end
end
section
section
variable (H:List B) (k0 km kb:Nat) (f g:Bool) (ws:List Int) (es:List (List Nat))
end
structure BOk (H:List B) (k0 km kb:Nat):Prop where
 l0:k0<H.length
 lm:km<H.length
 lb:kb<H.length
 n0:km≠k0
 n1:kb≠k0
 n2:kb≠km
 rb:∀bl∈H,rbB H.length bl
section
variable {H:List B} {k0 km kb:Nat} {f g:Bool} {ws:List Int} {es:List (List Nat)} {lf:Int} {m:List Nat} {c:B}
end
end
end
end Go.Proofs.YtjogkbekekdkjaaGreatDoor
section

end
namespace Go.Proofs.YtjogkbekekdkjaaGreatDoor
section
open Go Go.AM Go.RowKit Go.Lib
theorem infoG_N:(Tryz.prog.info? 77).map (fun i=>(i.zero,i.size,i.bytes))=some (some (.agg #[.int .i64 0,.slice none 0 0]),2,32):=by kernel_rfl
theorem growPos_N (n:Nat) (w:World) (h0:0<n) (hn:n≤1000000):Calls Tryz.prog 216 #[.slice none 0 0,.int .i64 n] w fun e w' =>
   e = .returned (.slice (some ⟨w.heap.size,0,none⟩) 0 (grownCap w n 0 77))∧w'=w.drew.alloc (.cells (Builtin.zeroCells (.agg #[.int .i64 0,.slice none 0 0]:Value).cells n++Builtin.zeroCells (.agg #[.int .i64 0,.slice none 0 0]:Value).cells (grownCap w n 0 77 - n)) 77):=by
 obtain ⟨i0,hi0,hz0,hs0,hby⟩:=info_parts infoG_N
 have h1:¬((n:Int)<0):=by omega
 have hz25:∀w,(Go.sizeOf 77).run Tryz.prog w = .ok 2 w:=fun w=>by simp [Go.sizeOf,typeInfo,hi0,hs0]
 have hold:(Builtin.firstCells i0.size 0 (.slice none 0 0)).run Tryz.prog w.drew = .ok ([]:List Value).toArray w.drew:=run_firstCells_none w.drew i0.size 0 0 0
 have hbig:(0+n)*i0.bytes≤140737488355328:=by rw [hby]; omega
 have hrz:∀ty,(Builtin.append_ #[66,3] ty #[.slice none 0 0,.int .i64 (n:Int)]).run Tryz.prog w =
   .ok (.slice (some ⟨w.heap.size,0,none⟩) n (grownCap w n 0 77)) (w.drew.alloc (.cells (Builtin.zeroCells (.agg #[.int .i64 0,.slice none 0 0]:Value).cells n++Builtin.zeroCells (.agg #[.int .i64 0,.slice none 0 0]:Value).cells (grownCap w n 0 77 - n)) 77)):=fun ty=>by
  have h:=Lib.run_append_grow_zeros (P:=Tryz.prog) w 66 3 ty 77 i0 _ .i64 .i64 Tryz.underlying66 Tryz.underlying3 hi0 hz0 none 0 0 [] hold n h0 (by omega) (by omega) (by omega)
   (by rw [hby]; omega)
   (growslice_fits (by omega) hbig)
  simpa using h
 have hGn:n≤grownCap w n 0 77:=grownCap_ge w _ _ _
 obtain ⟨G,hG⟩:∃G,G=grownCap w n 0 77:=⟨_,rfl⟩
 rw [←hG] at hrz hGn ⊢
 have hG63:G≤9223372036854775807:=by
  have:=grownCap_le_maxLen w n 0 77 (by unfold maxLen; omega)
  rw [←hG] at this
  unfold maxLen at this
  omega
 have h2:RowKit.wrap64 ((0:Int) - 0)=0:=by unfold RowKit.wrap64; omega
 have h3:RowKit.wrap64 ((n:Int) - 0)=(n:Int):=by unfold RowKit.wrap64; omega
 have h4:(n:Int) > 0:=by omega
 clear hold hG hbig
 go_enter Tryz.func216,Tryz.ntmps216
 go_wp2_with (at_builtin; refine Lib.wpList_append_run _ rfl _ _ _ _ rfl _ _ rfl rfl _ _ (hrz _) ?_)
 all_goals (go_ret; exact ⟨rfl,rfl⟩)
theorem growNil_N (w:World):Calls Tryz.prog 216 #[.slice none 0 0,.int .i64 0] w fun e w'=>e = .returned (.slice none 0 0)∧w'=w:=by
 go_enter Tryz.func216,Tryz.ntmps216
 go_wp2
 go_ret
 exact ⟨rfl,rfl⟩
theorem grow_con_N (n:Nat) (hn:n≤1000000):ConO Tryz.prog 216 [.nilS,.int .i64 n] fun e z ys=>e=77∧z=2∧ys=[]:=by
 refine conO_row ⟨Tryz.f216,Tryz.func216,rfl,rfl⟩ (fun F w vals hsz hrel=>?_)
 obtain ⟨u0,u1,rfl⟩:∃u0 u1,vals = #[u0,u1]:=by
  obtain ⟨l⟩:=vals
  match l,hsz with
  | [a,b],_=>exact ⟨a,b,rfl⟩
 have r0:=hrel 0 _ u0 rfl rfl
 have r1:=hrel 1 _ u1 rfl rfl
 cases r0
 cases r1
 by_cases h0:n=0
 ·subst h0
  exact (growNil_N w).mono fun e w' ⟨h1,h2⟩=>⟨_,h1,by subst h2; exact Below.refl _ _,.inl rfl⟩
 ·refine (growPos_N n w (by omega) hn).mono fun e w' ⟨h1,h2⟩=>?_
  subst h2
  have hge:=grownCap_ge w n 0 77
  refine ⟨_,h1,((Below.refl _ _).drew).alloc (Nat.le_refl _) _,.inr ⟨w.heap.size,grownCap w n 0 77,Builtin.zeroCells (.agg #[.int .i64 0,.slice none 0 0]:Value).cells n++Builtin.zeroCells (.agg #[.int .i64 0,.slice none 0 0]:Value).cells (grownCap w n 0 77 - n),rfl,Nat.le_refl _,?_,by omega,grownCap_le_maxLen w n 0 77 (by unfold maxLen; omega),?_⟩⟩
  ·exact Array.getElem?_push_size (xs:=w.heap)
  ·rw [Array.size_append,size_zeroCells,size_zeroCells,←Nat.add_mul,Nat.add_sub_cancel' hge]
   rfl
theorem grow_nil_N:ConP Tryz.prog 216 [.nilS,.int .i64 0] fun r=>r = .nilS:=by
 refine ⟨⟨Tryz.f216,Tryz.func216,rfl,rfl⟩,fun F w vals hZ hF hsz hrel=>?_⟩
 obtain ⟨u0,u1,rfl⟩:∃u0 u1,vals = #[u0,u1]:=by
  obtain ⟨l⟩:=vals
  match l,hsz with
  | [a,b],_=>exact ⟨a,b,rfl⟩
 have r0:=hrel 0 _ u0 rfl rfl
 have r1:=hrel 1 _ u1 rfl rfl
 cases r0
 cases r1
 refine (growNil_N w).mono fun e w' ⟨h1,h2⟩=>⟨_,_,h1,.nilS,.nilS,by subst h2; exact Below.refl _ _,rfl⟩
end
end Go.Proofs.YtjogkbekekdkjaaGreatDoor
namespace Go.Proofs.YtjogkbekekdkjaaGreatDoor
section
open Go Go.AM Go.RowKit
structure FlV where
 f:Bool
 xs:List V
end
end Go.Proofs.YtjogkbekekdkjaaGreatDoor
namespace Go.Proofs.YtjogkbekekdkjaaGreatDoor
section
open Go Go.AM
section
def shV:List Shr→V
 | []=>.nilS
 | x::l=>.lst 2 false (encSh x::l.map encSh)
def encNp (x:Nde):V:=.agg [.int .i64 x.v,shV x.l]
@[simp] theorem shV_pure (l:List Shr):AM.Pure (shV l):=by cases l<;>simp [shV]
theorem shV_one (l:List Shr):(shV l).one=true:=by cases l<;>rfl
@[simp] theorem encNp_pure (x:Nde):AM.Pure (encNp x):=by
 unfold encNp
 simp [shV_one]
section
variable {H:List B} {k0 km kb:Nat} {f g:Bool} {ws:List Int} {es:List (List Nat)} {lf:Int} {m:List Nat} {c:B}
end
end
end
end Go.Proofs.YtjogkbekekdkjaaGreatDoor
section
namespace Go.Proofs.YtjogkbekekdkjaaGreatDoor
open Go Go.AM
end Go.Proofs.YtjogkbekekdkjaaGreatDoor
end
namespace Go.Proofs.YtjogkbekekdkjaaGreatDoor
section
open Go Go.AM
section
def swp (j:Nat) (l:List Nat):List Nat:=(l.set (j+1) (l.getD j 0)).set j (l.getD (j+1) 0)
def sinkF (lt:Nat→Nat→Bool):Nat→List Nat→List Nat
 | 0,l=>l
 | j+1,l=>if lt (l.getD (j+1) 0) (l.getD j 0)=true then sinkF lt j (swp j l) else l
def isF (lt:Nat→Nat→Bool):Nat→Nat→List Nat→List Nat
 | 0,_,l=>l
 | r+1,i,l=>isF lt r (i+1) (sinkF lt i l)
def ltN (a b:Nat):Bool:=decide (a<b)
section
variable {H:List B} {k:Nat}
end
end
section
def ltCf (cf:Nat→Nat→Int) (a b:Nat):Bool:=decide (cf a b<0)
section
variable {H:List B} {k:Nat}
end
end
end
end Go.Proofs.YtjogkbekekdkjaaGreatDoor
section
namespace Go.Proofs.YtjogkbekekdkjaaGreatDoor
open Go Go.AM
end Go.Proofs.YtjogkbekekdkjaaGreatDoor
end
namespace Go.Proofs.YtjogkbekekdkjaaGreatDoor
section
open Go Go.AM
section
section
variable {C0:B} {E n:Nat} {rem:List Int} {Lh:Nat→Nat} {L:Nat→List Nat} {tl:List B}
end
def LE (es:List (List Nat)) (i k v:Nat):List Nat:=(List.range i).filter (fun j=>decide (v∈es.getD j []))++if v∈(es.getD i []).take k then [i] else []
def remF (es:List (List Nat)) (i:Nat):List Int:=(List.range es.length).map fun j=>if j<i then ((es.getD j []).length:Int) else 0
end
section
section
variable {C0:B} {E n:Nat} {rem:List Int} {Lh:Nat→Nat} {L:Nat→List Nat} {tl:List B}
end
end
def kep (ord out:List Nat) (p v:Nat):Bool:=decide (v∈out∨v∈ord.drop p)
structure GI (es:List (List Nat)) (ord:List Nat) (p:Nat) (rem:List Int) (out:List Nat):Prop where
 len:rem.length=es.length
 cnt:∀j<es.length,rem.getD j 0=((es.getD j []).countP (kep ord out p):Nat)
 pos:∀j<es.length,1≤rem.getD j 0
 sub:∀v∈out,v∈ord.take p
 nd:out.Nodup
structure GrOk (n:Nat) (es:List (List Nat)) (l:List Nat):Prop where
 s:l.Pairwise (· < ·)
 n:∀v∈l,v<n
 h:∀e∈es,∃v∈e,v∈l
def decJ (rm:List Int) (j:Nat):List Int:=rm.set j (rm.getD j 0 - 1)
def grF (L:Nat→List Nat):List Nat→List Int→List Nat→List Nat
 | [],_,out=>out
 | v::l,rem,out=>if (L v).any (fun j=>decide (rem.getD j 0=1))=true then grF L l rem (out++[v]) else grF L l ((L v).foldl decJ rem) out
def grOrd (ws:List Int) (n:Nat):List Nat:=isF (ltCf fun a b=>ws.getD b 0 - ws.getD a 0) (n - 1) 1 (List.range n)
noncomputable def greedyO (ws:List Int) (es:List (List Nat)):List Nat:=grF (LE es es.length 0) (grOrd ws ws.length) (remF es es.length) []
noncomputable def greedyF (ws:List Int) (es:List (List Nat)):List Nat:=isF ltN ((greedyO ws es).length - 1) 1 (greedyO ws es)
def wl (ws:List Int):List Nat→Int
 | []=>0
 | v::l=>ws.getD v 0+wl ws l
structure MinOk (n:Nat) (ws:List Int) (es:List (List Nat)) (T:Nat→Bool):Prop where
 h:∀e∈es,∃v∈e,T v=true
 m:∀T':Nat→Bool,(∀e∈es,∃v∈e,T' v=true)→wsum ws T n≤wsum ws T' n
noncomputable def minL (ws:List Int) (es:List (List Nat)) (lf:Int):List Nat:=match minF ws es (ws.length+1) (List.replicate ws.length 0) lf ⟨greedyF ws es,wl ws (greedyF ws es)⟩ 0 with
 | some P=>P.2.l
 | none=>[]
end
end Go.Proofs.YtjogkbekekdkjaaGreatDoor
section
namespace Go.Proofs.YtjogkbekekdkjaaGreatDoor
open Go Go.AM
end Go.Proofs.YtjogkbekekdkjaaGreatDoor
end
section
namespace Go.Proofs.YtjogkbekekdkjaaGreatDoor
open Go Go.AM
end Go.Proofs.YtjogkbekekdkjaaGreatDoor
end
namespace Go.Proofs.YtjogkbekekdkjaaGreatDoor
section
open Go Go.AM
noncomputable def prE (t:Tb) (cs:List Cn) (w:List Int):Int:=if buildErr t cs=0 then (if w=[]∨w.length=t.rows.length then validN (inW t w) (inE t cs) else 6) else buildErr t cs
theorem pr_ok {t:Tb} {cs:List Cn} {w:List Int} (h:prE t cs w=0):buildErr t cs=0∧(w=[]∨w.length=t.rows.length)∧HsB (inW t w) (inE t cs):=by
 unfold prE at h
 split at h
 ·rename_i h1
  split at h
  ·rename_i h2; exact ⟨h1,h2,valid_hsb.1 h⟩
  ·cases h
 ·rename_i h1; exact absurd h h1
theorem inE_len (t:Tb) (cs:List Cn):(inE t cs).length=(edgesF (allR t cs)).length:=by simp [inE]
theorem inE_ed {t:Tb} {cs:List Cn} (hb:BdOk t cs) (h:buildErr t cs=0):EdOk t.rows.length (inE t cs):=by
 obtain ⟨_,hh,_⟩:=edges_small hb h
 intro e he
 obtain ⟨x,hx,rfl⟩:=List.mem_map.1 he
 have:=ixE_ok hh hx
 rwa [idsR_len] at this
theorem pr_hsb {t:Tb} {cs:List Cn} {w:List Int} (hb:BdOk t cs) (h:buildErr t cs=0) (hl:w=[]∨w.length=t.rows.length) (hw:∀x∈w,1≤x∧x≤1000000):HsB (inW t w) (inE t cs):=by
 have hn:=inW_len hl
 have h8:t.rows.length≤8:=by
  obtain ⟨_,h2,_⟩:=build_ok h
  have:=hb.rows; omega
 refine ⟨fun v hv=>?_,by omega,?_,?_⟩
 ·rw [getD_lt' _ _ hv]
  exact inW_rng hw _ (List.getElem_mem hv)
 ·rw [inE_len]
  have:=edges_585 hb h
  omega
 ·rw [hn]; exact inE_ed hb h
theorem pr_zero {t:Tb} {cs:List Cn} {w:List Int} (hb:BdOk t cs) (h:buildErr t cs=0) (hl:w=[]∨w.length=t.rows.length) (hw:∀x∈w,1≤x∧x≤1000000):prE t cs w=0:=by
 unfold prE
 rw [if_pos h,if_pos hl,valid_hsb]
 exact pr_hsb hb h hl hw
def hasJ (b:Int) (i:Nat):Bool:=IntKind.i64.wrap ↑((b.fdiv (2^min i IntKind.i64.bits) % 2^IntKind.i64.bits).toNat &&& 1 % 2^IntKind.i64.bits) == 1
def selN (b:Int) (i:Nat):List Nat:=(List.range i).filter (hasJ b)
def hitN (es:List (List Nat)) (l:List Nat):Bool:=es.all fun e=>meetsE e l
def lsN (ws:List Int) (es:List (List Nat)):Nat→Int
 | 0=>-1
 | b+1=>if hitN es (selN (b:Int) ws.length)=true∧(lsN ws es b<0∨wl ws (selN (b:Int) ws.length)<lsN ws es b) then wl ws (selN (b:Int) ws.length) else lsN ws es b
def butL (D:List Int) (a:Int):List Int:=D.filter fun x=>!decide (x=a)
theorem butL_mem {D:List Int} {a x:Int} : x∈butL D a↔x∈D∧x≠a:=by simp [butL]
def plE (I D:List Int):Int:=if asc D=true then (if within D I=true then 0 else 4) else 1
theorem plE_ok {I D:List Int} (h:plE I D=0):D.Pairwise (· < ·)∧∀a∈D,a∈I:=by
 unfold plE at h
 split at h
 ·rename_i h1
  split at h
  ·rename_i h2; exact ⟨(asc_pair D).1 h1,within_iff.1 h2⟩
  ·cases h
 ·cases h
theorem plE_of {I D:List Int} (h1:D.Pairwise (· < ·)) (h2:∀a∈D,a∈I):plE I D=0:=by
 unfold plE
 rw [if_pos ((asc_pair D).2 h1),if_pos (within_iff.2 h2)]
def minB (E:List (List Int)) (D:List Int):Bool:=hitB E D&&D.all fun a=>!hitB E (butL D a)
def cmpF (E:List (List Int)) (D:List Int):Nat→List Int
 | 0=>D
 | i+1=>if hitB E (butL (cmpF E D i) (D.getD i 0))=true then butL (cmpF E D i) (D.getD i 0) else cmpF E D i
theorem cmpF_sub (E:List (List Int)) (D:List Int):∀i,(cmpF E D i).Sublist D
 | 0=>List.Sublist.refl _
 | i+1=>by
  rw [cmpF]
  split
  ·exact List.filter_sublist.trans (cmpF_sub E D i)
  ·exact cmpF_sub E D i
theorem cmpF_le (E:List (List Int)) (D:List Int) {i:Nat} : ∀k,∀a∈cmpF E D (i+k),a∈cmpF E D i
 | 0,a,h=>h
 | k+1,a,h=>by
  rw [←Nat.add_assoc,cmpF] at h
  split at h
  ·exact cmpF_le E D k a (butL_mem.1 h).1
  ·exact cmpF_le E D k a h
theorem cmpF_hit {E:List (List Int)} {D:List Int} (h:hitB E D=true):∀i,hitB E (cmpF E D i)=true
 | 0=>h
 | i+1=>by
  rw [cmpF]
  split
  ·assumption
  ·exact cmpF_hit h i
theorem cmpF_min {E:List (List Int)} {D:List Int} (h:hitB E D=true):minB E (cmpF E D D.length)=true:=by
 unfold minB
 rw [cmpF_hit h,Bool.true_and,List.all_eq_true]
 intro a ha
 rw [Bool.not_eq_true',←Bool.not_eq_true]
 intro hh
 have haD:=(cmpF_sub E D D.length).subset ha
 obtain ⟨i,hi,rfl⟩:=List.mem_iff_getElem.1 haD
 have hg:D.getD i 0=D[i]:=by simp [List.getD,hi]
 have hle:∀b∈cmpF E D D.length,b∈cmpF E D (i+1):=fun b hb=>by
  have:=cmpF_le E D (i:=i+1) (D.length - (i+1)) b
  rw [show i+1+(D.length - (i+1))=D.length by omega] at this
  exact this hb
 have hs:=hle _ ha
 rw [cmpF,hg] at hs
 split at hs
 ·exact (butL_mem.1 hs).2 rfl
 ·rename_i hn
  refine hn (hitB_mono (fun b hb=>?_) hh)
  obtain ⟨q1,q2⟩:=butL_mem.1 hb
  have:=hle b q1
  rw [cmpF,hg,if_neg hn] at this
  exact butL_mem.2 ⟨this,q2⟩
theorem cmpF_ok {I:List Int} {E:List (List Int)} {D:List Int} (h:plE I D=0) (k:Nat):plE I (cmpF E D k)=0:=by
 obtain ⟨h1,h2⟩:=plE_ok h
 exact plE_of (h1.sublist (cmpF_sub E D k)) fun a ha=>h2 a ((cmpF_sub E D k).subset ha)
noncomputable def chkS (t:Tb) (cs:List Cn) (w D:List Int) (b:Int) (l:List Nde):Bool:=if prE t cs w=0 then (if plE (idsR t.rows) D=0 then (hitN (inE t cs) (ixE (idsR t.rows) D)&&decide (wl (inW t w) (ixE (idsR t.rows) D)=b)&&checkG (inW t w) (inE t cs) b l) else false) else false
noncomputable def lstW (t:Tb) (cs:List Cn) (w:List Int):Int:=lsN (inW t w) (inE t cs) (2^(inW t w).length)
end
end Go.Proofs.YtjogkbekekdkjaaGreatDoor
section
namespace Go.Proofs.YtjogkbekekdkjaaGreatDoor
open Go Go.AM
end Go.Proofs.YtjogkbekekdkjaaGreatDoor
end
namespace Go.Proofs.YtjogkbekekdkjaaGreatDoor
section
open Go Go.AM
noncomputable def optD (t:Tb) (cs:List Cn) (w:List Int):List Int:=(minL (inW t w) (inE t cs) 10000).map fun v=>(idsR t.rows).getD v 0
noncomputable def optB (t:Tb) (cs:List Cn) (w:List Int):Int:=wl (inW t w) (minL (inW t w) (inE t cs) 10000)
noncomputable def optV (t:Tb) (cs:List Cn) (w:List Int):Option (List Nde×Int):=prvF (inW t w) (inE t cs) ((inW t w).length+1) (List.replicate (inW t w).length 0) 10000 (optB t cs w)
noncomputable def optN (t:Tb) (cs:List Cn) (w:List Int):List Nde:=((optV t cs w).getD ([],0)).1
structure OptS (t:Tb) (cs:List Cn) (w:List Int):Prop where
 prv:∃lf,optV t cs w=some (optN t cs w,lf)∧0≤lf
 len:(optN t cs w).length≤511
 wt:optB t cs w=lstW t cs w
 rng:0≤optB t cs w∧optB t cs w≤8000000
 pl:plE (idsR t.rows) (optD t cs w)=0
 chk:chkS t cs w (optD t cs w) (optB t cs w) (optN t cs w)=true
 min:minB (edgesF (allR t cs)) (optD t cs w)=true
def fnd (rs:List Rw) (id:Int) (i:Nat):Nat×Bool:=if h:i<rs.length then (if rs[i].id=id then (i,true) else fnd rs id (i+1)) else (0,false)
termination_by rs.length - i
theorem find03 (t:Tb) (f g:Bool) (id:Int) (hr:t.rows.length≤1000000):ConP Tryz.prog 43 [encTb f g t,.int .i64 id] fun r=>r = .tup [.int .i64 (fnd t.rows id 0).1,.bool (fnd t.rows id 0).2]:=by
 obtain ⟨E,hE⟩:∃E,E=fnd t.rows id 0:=⟨_,rfl⟩
 rw [←hE]
 refine conP_of_conH (conH_of_W tok Tryz.func43 rfl rfl ?_)
 refine wx ?_
 simp -implicitDefEqProofs -dsimp [Tryz.f43,List.replicate,encTb,LS,LR]
 refine lw_of (W_loopM 23 [4,5,6,7,8,9,10,11,12,13,14,15,16,17,18,19,20,21,22] (by simp [mB]<;>rfl) (σ:=Nat) (fun i=>fnd t.rows id i=E) (fun i=>t.rows.length - i) (fun i=>[(6,.int .i64 i)]) (fun _=>[B.cells [.str t.name,.lst 1 f (t.attrs.map V.str),.lst 2 g (t.rows.map encRw)]]) 0 hE.symm (by simp) (by simp) (by simp) ?_)
 intro i hx N Q hN hQ
 by_cases hb:i<t.rows.length
 ·rw [fnd,dif_pos hb] at hx
  by_cases hq:t.rows[i].id=id
  ·rw [if_pos hq] at hx
   subst hx
   refine wx ?_
   simp -implicitDefEqProofs -dsimp [hb,encRw,LV,hq]
   refine hQ _ _ _ ?_
   simp -implicitDefEqProofs -dsimp []
  ·rw [if_neg hq] at hx
   refine wx ?_
   simp -implicitDefEqProofs -dsimp [hb,encRw,LV,hq]
   simp -implicitDefEqProofs -dsimp [wrapS i (by omega)]
   refine hN (i+1) _ _ hx (by omega) (by simp) ⟨[],by simp⟩ (by simp) (by simp)
 ·rw [fnd,dif_neg hb] at hx
  subst hx
  refine wx ?_
  simp -implicitDefEqProofs -dsimp [hb]
  refine hQ _ _ _ ?_
  simp -implicitDefEqProofs -dsimp []
theorem fnd_at {rs:List Rw} {i:Nat} (h:i<rs.length) (hp:rs.Pairwise fun a b=>a.id<b.id) (d:Nat):∀j,j+d=i→fnd rs rs[i].id j=(i,true):=by
 induction d with
 | zero =>
  intro j e
  obtain rfl:j=i:=by omega
  rw [fnd,dif_pos h,if_pos rfl]
 | succ d ih =>
  intro j e
  rw [fnd,dif_pos (by omega),if_neg]
  ·exact ih (j+1) (by omega)
  ·have:=List.pairwise_iff_getElem.1 hp j i (by omega) h (by omega)
   omega
theorem fnd_no {rs:List Rw} {id:Int} (h:∀r∈rs,¬r.id=id) (i:Nat):fnd rs id i=(0,false):=by
 fun_induction fnd rs id i with
 | case1 i hi he=>exact absurd he (h _ (List.getElem_mem hi))
 | case2 i hi he ih=>exact ih
 | case3 i hi=>rfl
theorem fnd_bs {t:Tb} (g:TbC t) (id:Int):fnd t.rows id 0=if memB (idsR t.rows) id=true then (bsP (idsR t.rows) id,true) else (0,false):=by
 have ha:asc (idsR t.rows)=true:=(asc_pair _).2 (ids_asc g)
 split
 ·rename_i h
  obtain ⟨r,hr,rfl⟩:=List.mem_map.1 (memB_iff.1 h)
  obtain ⟨i,hi,rfl⟩:=List.mem_iff_getElem.1 hr
  rw [fnd_at hi g.ids i 0 (by omega)]
  have hi2:i<(idsR t.rows).length:=by rw [idsR_len]; exact hi
  have h1:=bsP_ix ha hi2
  have h2:(idsR t.rows)[i]=t.rows[i].id:=by simp [idsR]
  rw [h2] at h1
  rw [h1]
 ·rename_i h
  refine fnd_no (fun r hr e=>h (memB_iff.2 (List.mem_map.2 ⟨r,hr,e⟩))) 0
def ixW (p:Rw→Bool) (rs:List Rw) (i:Nat):Int:=if h:i<rs.length then (if p rs[i] then (i:Int) else ixW p rs (i+1)) else -1
termination_by rs.length - i
theorem idxFuncW (H:List B) (fv:V) (p:Rw→Bool) (rs:List Rw) (g:Bool) (hes:rs.length≤1000000) (hH:∀bl∈H,rbB H.length bl) (hfv:rb H.length fv)
  (hp:∀m∈rs,WCall Tryz.prog fv [encRw m] H fun r H'=>r = .bool (p m)∧H'=H):ConH Tryz.prog 96 [LR g rs,fv] H fun r H'=>r = .int .i64 (ixW p rs 0)∧H'=H:=by
 refine conH_of_W tok Tryz.func96 rfl rfl ?_
 refine wx ?_
 simp -implicitDefEqProofs -dsimp [Tryz.f96,List.replicate,LR]
 refine lw_of (W_loopM 19 [4,5,8,9,10,11,12,13,14,15,16,17,18] (by simp [mB]<;>rfl) (σ:=Nat) (fun i=>ixW p rs i=ixW p rs 0) (fun i=>rs.length - i) (fun i=>[(8,.int .i64 i)]) (fun _=>H) 0 rfl (by simp) rfl (by simp) ?_)
 intro i hx N Q hN hQ
 by_cases hb:i<rs.length
 ·rw [ixW,dif_pos hb] at hx
  have hc:=hp rs[i] (List.getElem_mem hb)
  simp only [encRw,LV] at hc
  cases hq:p rs[i]
  ·rw [hq] at hc hx
   refine wx ?_
   simp -implicitDefEqProofs -dsimp [hb,encRw,LV]
   refine hc.mono ?_
   rintro r H' ⟨rfl,rfl⟩
   simp -implicitDefEqProofs -dsimp [wrapS i (by omega)]
   refine hN (i+1) _ _ (by simpa using hx) (by omega) (by simp) ⟨[],by simp⟩ (by simp; exact hfv) hH
  ·rw [hq] at hc hx
   refine wx ?_
   simp -implicitDefEqProofs -dsimp [hb,encRw,LV]
   refine hc.mono ?_
   rintro r H' ⟨rfl,rfl⟩
   simp -implicitDefEqProofs -dsimp []
   refine hQ _ _ _ ?_
   simp -implicitDefEqProofs -dsimp []
   simpa using hx
 ·rw [ixW,dif_neg hb] at hx
  refine wx ?_
  simp -implicitDefEqProofs -dsimp [hb]
  refine hQ _ _ _ ?_
  simp -implicitDefEqProofs -dsimp []
  simpa using hx
theorem ixW_fnd (rs:List Rw) (id:Int) (i:Nat):ixW (fun r=>decide (r.id=id)) rs i=if (fnd rs id i).2=true then ((fnd rs id i).1:Int) else -1:=by
 fun_induction fnd rs id i with
 | case1 i hi he=>rw [ixW,dif_pos hi,if_pos (by simpa using he)]; rfl
 | case2 i hi he ih=>rw [ixW,dif_pos hi,if_neg (by simpa using he)]; exact ih
 | case3 i hi=>rw [ixW,dif_neg hi]; rfl
theorem ixW_bs {t:Tb} (g:TbC t) (id:Int):ixW (fun r=>decide (r.id=id)) t.rows 0=if memB (idsR t.rows) id=true then (bsP (idsR t.rows) id:Int) else -1:=by
 rw [ixW_fnd,fnd_bs g]
 split<;>simp
theorem ixE_succ {I D:List Int} {i:Nat} (h:i<D.length):ixE I (D.take (i+1))=ixE I (D.take i)++[bsP I D[i]]:=by
 unfold ixE
 rw [List.take_succ_eq_append_getElem h,List.map_append]
 rfl
theorem ixE_len (I D:List Int):(ixE I D).length=D.length:=by simp [ixE]
def plV (I D:List Int):V:=if plE I D=0 then .tup [Ln false (ixE I D),.int .i64 0] else .tup [.nilS,.int .i64 (plE I D)]
theorem plV_asc {I D:List Int} (h:asc D=false):plV I D = .tup [.nilS,.int .i64 1]:=by
 unfold plV plE
 rw [h]; rfl
theorem plV_no {I D:List Int} (h:asc D=true) (h2:within D I=false):plV I D = .tup [.nilS,.int .i64 4]:=by
 unfold plV plE
 rw [h,h2]; rfl
theorem plV_yes {I D:List Int} (h:asc D=true) (h2:within D I=true):plV I D = .tup [Ln false (ixE I D),.int .i64 0]:=by
 unfold plV plE
 rw [h,h2]; rfl
theorem nat_rb (n e:Nat) (l:List Nat) (fz:Bool):rbB n (.buf e 1 (l.map eN) fz):=fun x hx=>by
 obtain ⟨y,_,rfl⟩:=List.mem_map.1 hx
 intro c hc
 simp only [eN,V.cells,List.mem_cons,List.not_mem_nil,or_false] at hc
 subst hc
 simp [rb1]
theorem within_no {D I:List Int} {i:Nat} (hi:i<D.length) (h:memB I D[i]=false):within D I=false:=by
 rw [←Bool.not_eq_true,within_iff]
 intro hw
 have:=memB_iff.2 (hw _ (List.getElem_mem hi))
 rw [h] at this; cases this
theorem within_all {D I:List Int} (h:∀a∈D.take D.length,a∈I):within D I=true:=by
 rw [List.take_length] at h
 exact within_iff.2 h
theorem take_in {D I:List Int} {i:Nat} (hi:i<D.length) (h:∀a∈D.take i,a∈I) (h2:memB I D[i]=true):∀a∈D.take (i+1),a∈I:=fun a ha=>by
 rw [List.take_succ_eq_append_getElem hi] at ha
 rcases List.mem_append.1 ha with q | q
 ·exact h a q
 ·rw [List.mem_singleton] at q; rw [q]; exact memB_iff.1 h2
theorem expx_pairS {H:List B} {a b c d:V} (h1:ExpX H a c) (h2:ExpX H b d):ExpX H (.tup [a,b]) (.tup [c,d]):=.tup _ _ rfl (fun i x y hx hy=>by
 match i with
 | 0=>simp at hx hy; subst hx; subst hy; exact h1
 | 1=>simp at hx hy; subst hx; subst hy; exact h2
 | i+2=>simp at hx)
theorem positions_r (t:Tb) (D:List Int) (f g fd:Bool) (hg:TbC t) (hr:t.rows.length≤1000000) (hD:D.length≤1000000):ConP Tryz.prog 50 [encTb f g t,L1 fd D] fun r=>r=plV (idsR t.rows) D:=by
 have ca:=asc_r D fd hD
 simp only [L1] at ca
 have hmem:=fun id=>fnd_bs hg id
 obtain ⟨I,hI⟩:∃I,I=idsR t.rows:=⟨_,rfl⟩
 rw [←hI] at hmem ⊢
 have cf:=fun id=>find03 t f g id hr
 simp only [encTb,LS,LR] at cf
 cases h1:asc D with
 | false =>
  rw [h1] at ca
  rw [plV_asc h1]
  refine conP_of_conH (conH_of_W tok Tryz.func50 rfl rfl ?_)
  refine wx ?_
  simp -implicitDefEqProofs -dsimp [Tryz.f50,List.replicate,encTb,LS,LR,L1]
  refine (callP (ca) (by simp)).mono ?_
  rintro r H' ⟨rfl,rfl⟩
  simp -implicitDefEqProofs -dsimp []
 | true =>
  rw [h1] at ca
  refine conP_of_conX (conH_of_W tok Tryz.func50 rfl rfl ?_)
  refine wx ?_
  simp -implicitDefEqProofs -dsimp [Tryz.f50,List.replicate,encTb,LS,LR,L1]
  refine (callP (ca) (by simp)).mono ?_
  rintro r H' ⟨rfl,rfl⟩
  simp -implicitDefEqProofs -dsimp []
  refine lw_of (W_own 3 1 [6] (by simp) (W_loopM 34 [4,5,6,7,8,9,13,14,15,16,17,18,19,20,21,22,23,24,25,26,27,28,29,30,31,32,33] (by simp [mB]<;>rfl) (σ:=Nat) (fun i=>i≤D.length∧∀a∈D.take i,a∈I) (fun i=>D.length - i) (fun i=>[(7,.int .i64 i),(6,.buf 1 0 i i)]) (fun i=>[B.cells [.str t.name,.lst 1 f (t.attrs.map V.str),.lst 2 g (t.rows.map encRw)],B.buf 3 1 ((ixE I (D.take i)).map eN) false]) 0 ⟨by omega,by simp⟩ (by simp) (by simp [ixE]) (by simp) ?_))
  rintro i ⟨hi,hin⟩ N Q hN hQ
  have hle:(ixE I (D.take i)).length=i:=by rw [ixE_len]; simp; omega
  by_cases hb:i<D.length
  ·have hs:=ixE_succ (I:=I) hb
   have hno:=within_no (I:=I) hb
   have hti:=take_in (I:=I) hb hin
   have hc:=cf D[i]
   rw [hmem] at hc
   obtain ⟨d,hd⟩:∃d,d=D[i]:=⟨_,rfl⟩
   rw [←hd] at hs hno hti hc
   cases hm:memB I d with
   | false =>
    rw [hm] at hc
    simp only [Bool.false_eq_true,if_false] at hc
    refine wx ?_
    simp -implicitDefEqProofs -dsimp [hb,hd.symm,encI]
    refine .inr ⟨stop_of (by kernel_rfl),?_⟩
    refine cy_of _ (callP (hc) (by simp)) ?_
    simp -implicitDefEqProofs -dsimp []
    refine hQ _ _ _ ?_
    simp -implicitDefEqProofs -dsimp []
    rw [plV_no h1 (hno hm)]
    exact ⟨.pure _ (by simp),by simp⟩
   | true =>
    rw [hm] at hc
    simp only [if_true] at hc
    obtain ⟨p,hp⟩:∃p,p=bsP I d:=⟨_,rfl⟩
    rw [←hp] at hs hc
    refine wx ?_
    simp -implicitDefEqProofs -dsimp [hb,hd.symm,encI]
    refine .inr ⟨stop_of (by kernel_rfl),?_⟩
    refine cy_of _ (callP (hc) (by simp)) ?_
    simp -implicitDefEqProofs -dsimp [hle,cap8 i (by omega),wrapN i (by omega),wrapS i (by omega)]
    refine hN (i+1) _ _ ⟨by omega,hti hm⟩ (by omega) (by simp) ⟨[],by simp [hs,eN]⟩ (by simp) (fun bl hbl=>?_)
    simp only [List.mem_cons,List.not_mem_nil,or_false] at hbl
    rcases hbl with rfl | rfl
    ·intro c hc; simp only [List.mem_cons,List.not_mem_nil,or_false] at hc; rcases hc with rfl | rfl | rfl<;>simp [rb,rb1]
    ·exact nat_rb _ _ _ _
  ·obtain rfl:i=D.length:=by omega
   rw [List.take_length] at hle ⊢
   refine wx ?_
   simp -implicitDefEqProofs -dsimp [hb]
   refine hQ _ _ _ ?_
   simp -implicitDefEqProofs -dsimp []
   rw [plV_yes h1 (within_all hin)]
   exact ⟨expx_pairS (expx_buf rfl (by rw [List.length_map,hle]) (by simp [eN])) (.pure _ (by simp)),by simp [Ln_pure]⟩
end
end Go.Proofs.YtjogkbekekdkjaaGreatDoor
