/- JM45: own texts of this seat, joined and shortened by pack4.py: DelI. -/
import Derived.Test.YtjogkbekekdkjaaGreatDoorJM32
set_option linter.unusedVariables false
set_option linter.unusedSimpArgs false
set_option maxRecDepth 100000
set_option maxHeartbeats 64000000
open List renaming replicate→ou,getElem?_set_self→pO,drop_zero→pT,nil_append→pU,take_of_length_le→pX,append_assoc→pb,map_append→qB,take_append_drop→qF,set_set→qf,take_zero→rB,map_take→rK,take_append_of_le_length→rL,length_drop→rR,take→rW,drop→sV
open Nat renaming sub_self→qi,sub_zero→ru
namespace Go.Proofs.YtjogkbekekdkjaaGreatDoor
section
open Go Go.AM
section
theorem del_takeI{α:Type}(l:List α)(i n m:Nat)(hn:l.length=n)(hi:i<n)(hm:m=n-1):(l.take i++(l.drop (i+1)++l.drop m)).take m=l.eraseIdx i:=by
 rw[List.eraseIdx_eq_take_drop_succ,←pb,rL (by simp;omega),pX (by simp;omega)]
theorem encI_inj{a b:List Int}(h:a.map au=b.map au):a=b :=
 (List.map_inj_right (f:=au) (fun x y h=>by simpa[au] using h)).1 h
def iL(xs:List Int):List V:=xs.map au
theorem iL_len(xs:List Int):(iL xs).length=xs.length:=by simp[iL]
theorem iL_inj{a b:List Int}(h:iL a=iL b):a=b:=encI_inj h
theorem iL_fill(ys:List Int)(k n:Nat)(hn:ys.length=n):rW k (iL ys)++(ou (n-k) (V.int .i64 0)++sV n (iL ys))=iL (ys.take k++ou (n-k) 0):=enc_fill ys k n hn
section
variable {H:List B} {k0:Nat}
def JB(H:List B)(k0:Nat)(xs:List Int):List B:=H.set k0 (.buf 2 1 (iL xs) false)
theorem JB_at(h:k0<H.length)(xs:List Int):(JB H k0 xs)[k0]?=some (.buf 2 1 (iL xs) false):=by
 unfold JB;rw[pO h]
theorem JB_set(xs xs':List Int):(JB H k0 xs).set k0 (.buf 2 1 (iL xs') false)=JB H k0 xs':=by
 unfold JB;rw[qf]
theorem deleteI_h(hk0:k0<H.length)(l:List Int)(n i:Nat)(hn:l.length=n)(hn2:n≤1000000)(hi:i<n):
  aZ Tryz.prog 28 [.buf k0 0 n n,.int .i64 i,.int .i64 ((i:Int)+1)] (JB H k0 l) fun r H'=>r = .buf k0 0 (n-1) n∧H'=JB H k0 (l.eraseIdx i++[0]):=by
 have g0:=JB_at hk0 l;have hnl:=iL_len l;obtain⟨j,hj⟩:∃j,j=i+1:=⟨_,rfl⟩
 have hji:((i:Int)+1)=(j:Int):=by omega
 rw[hji]
 have hne:¬(i:Int)=(j:Int):=by omega
 have hne2:¬i=j:=by omega
 obtain⟨m,hm⟩:∃m,m=n-1:=⟨_,rfl⟩
 have hmj:i+(n-j)=m:=by omega
 obtain⟨M,hM⟩:∃M,M=l.take i++(l.drop j++l.drop m):=⟨_,rfl⟩
 have hMl:M.length=n:=by rw[hM];simp;omega
 have hMt:M.take m=l.eraseIdx i:=by rw[hM,hj];exact del_takeI l i n m hn hi hm
 have hMc:iL M=rW i (iL l)++(rW (n-j) (sV j (iL l))++sV m (iL l)):=by
  rw[hM,pX (l:=sV j (iL l)) (i:=n-j) (by rw[rR,iL_len];omega)];simp only[iL,qB,rK,List.map_drop]
 have hfill:=iL_fill M m n hMl
 have hR:M.take m++ou (n-m) 0=l.eraseIdx i++[0]:=by rw[hMt,show n-m=1 by omega];rfl
 rw[hR]at hfill;rw[←hm];have g1:=JB_at hk0 M
 have hnM:(iL M).length=n:=by rw[iL_len,hMl]
 have hs1:=JB_set (H:=H) (k0:=k0) l M;have hs2:=JB_set (H:=H) (k0:=k0) M (l.eraseIdx i++[0]);generalize l.eraseIdx i++[0]=R at hfill hs2 ⊢;clear hM hMl hMt hR
 have s1:i≤n:=by omega
 have s2:j≤n:=by omega
 have s3:m≤n:=by omega
 have s4:¬m=n:=by omega
 have s5:¬n=m:=by omega
 have s6:¬n-m=0:=by omega
 have s7:¬i=n:=by omega
 refine aK tok Tryz.func28 rfl rfl ?_;refine wx ?_;simp -dsimp[Tryz.f28,ou,g0,hnl,hn,hne,hne2,show(i:Int)<n by omega,show i≤j by omega,show j≤n by omega]
 have s8:¬n=0:=by omega
 have s9:¬0=n:=by omega
 by_cases hi0:i=0
 ·subst hi0;rw[rB,pU]at hMc;by_cases hjn:j=n
  ·subst hjn;rw[qi,rB,pU,show m=0 by omega,pT]at hMc
   obtain rfl:m=0:=by omega
   obtain rfl:=iL_inj hMc;rw[rB,pU,ru]at hfill;refine aR (ao tok mixed [6] [] [] (by kernel_rfl) fun C K hC hK=>?_);simp -implicitDefEqProofs [g0,hnl,hn,s1,s2,s7,s8,s9,hs1];refine hK _ _ ?_;simp -dsimp[g1,hnM,s3,s4,s5,s6,hfill,hs2,s8,s9]
  ·have hmj0:n-j=m:=by omega
   rw[hmj0]at hMc;refine aR (ao tok mixed [6] [] [] (by kernel_rfl) fun C K hC hK=>?_);simp -implicitDefEqProofs [g0,hnl,hn,hjn,s1,s2,s7,s8,s9,hmj0,hMc.symm,hs1,s3];refine hK _ _ ?_;simp -dsimp[g1,hnM,s3,s4,s5,s6,hfill,hs2]
 ·by_cases hjn:j=n
  ·subst hjn;rw[qi,rB,pU,show m=i by omega]at hMc
   obtain rfl:m=i:=by omega
   rw[qF]at hMc;obtain rfl:=iL_inj hMc;refine aR (ao tok mixed [6] [] [] (by kernel_rfl) fun C K hC hK=>?_);simp -implicitDefEqProofs [g0,hnl,hn,hi0,s1,s2,s7,s8,s9,show ¬0=m by omega,hs1];refine hK _ _ ?_;simp -dsimp[g1,hnM,s3,s4,s5,s6,hfill,hs2,s8,s9]
  ·refine aR (ao tok mixed [6] [] [] (by kernel_rfl) fun C K hC hK=>?_);simp -implicitDefEqProofs [g0,hnl,hn,hi0,hjn,s1,s2,s7,s8,show ¬0=i by omega,hmj,hMc.symm,hs1,s3];refine hK _ _ ?_;simp -dsimp[g1,hnM,s3,s4,s5,s6,hfill,hs2]
end
end
end
end Go.Proofs.YtjogkbekekdkjaaGreatDoor
