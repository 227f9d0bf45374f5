/- JX35: own texts of this seat, joined and shortened by pack4.py: Opc, DelI, SI. -/
import Derived.Test.YtjogkbekekdkjaaGreatDoorJX34
set_option linter.unusedVariables false
set_option linter.unusedSimpArgs false
set_option maxRecDepth 100000
set_option maxHeartbeats 64000000
open List renaming replicate→rO,drop_zero→rk,take_of_length_le→rt,nil_append→rx,getElem?_set_self→sA,append_assoc→sO,map_append→sX,length_set→se,set_set→tC,take_append_drop→tG,length_drop→tL,map_take→tj,take_zero→tq,take→uH,drop→vI
open Nat renaming sub_self→tg,sub_zero→uY
namespace Go.Proofs.YtjogkbekekdkjaaGreatDoor
section
open Go Go.AM
theorem shq_i64s{n Bd:Nat}{ws:List V}(h:ShB T Bd (n+2) 34 ws):∃xs:List Int,ws=[L1 false xs]∧xs.length≤maxLen:=by
 obtain⟨xs,rfl,hl,hx⟩:=du h T_34 rfl T_2
 obtain⟨l,rfl,_⟩:∃l:List Int,xs=l.map aE∧∀c∈l,True:=bY fun x hxm=>by
  obtain⟨ws,hs,_,rfl⟩:=hx x hxm;obtain⟨s,e1⟩:=oW hs;subst e1;exact⟨s,by simp[bX,aE],trivial⟩
 exact⟨l,rfl,by simpa using hl⟩
theorem shq_case4{n Bd:Nat}(hB:Bd≤1048576){ws:List V}(h:ShB T Bd (n+9) 28 ws):∃(x:Rcp) (rs:List Rul) (cs:List Int),.agg ws=cF false false false x rs cs∧C4Ok x rs cs:=by
 obtain⟨hlen,hf⟩:=bL h T_28 rfl rfl
 obtain⟨a,b,c,d,e,rfl⟩:∃a b c d e,ws=[a,b,c,d,e]:=by
  match ws,hlen with
  | [a,b,c,d,e],_=>exact⟨a,b,c,d,e,rfl⟩
 obtain⟨r,e1,p1,p2,p3,p4⟩:=shq_recipe (hf 0 _ _ rfl T_24);obtain⟨l,e2,q1,q2⟩:=shq_rules hB (hf 1 _ _ rfl T_25);obtain⟨us,e3,u1,u2⟩:=lj (hf 2 _ _ rfl T_26);simp at e1 e2 e3;obtain⟨rfl,rfl,rfl⟩:=e1;subst e2;subst e3;exact⟨r,l,us,rfl,⟨p1,p2,p4,q1,q2,u2⟩⟩
section
theorem del_takeI{α:Type}(l:List α)(i n m:Nat)(hn:l.length=n)(hi:i<n)(hm:m=n-1):(l.take i++(l.drop (i+1)++l.drop m)).take m=l.eraseIdx i:=by
 rw[List.eraseIdx_eq_take_drop_succ,←sO,List.take_append_of_le_length (by simp;omega),rt (by simp;omega)]
theorem encI_inj{a b:List Int}(h:a.map aE=b.map aE):a=b :=
 (List.map_inj_right (f:=aE) (fun x y h=>by simpa[aE] using h)).1 h
def iL(xs:List Int):List V:=xs.map aE
theorem gk(xs:List Int):(iL xs).length=xs.length:=by simp[iL]
theorem iL_inj{a b:List Int}(h:iL a=iL b):a=b:=encI_inj h
theorem iL_fill(ys:List Int)(k n:Nat)(hn:ys.length=n):uH k (iL ys)++(rO (n-k) (V.int .i64 0)++vI n (iL ys))=iL (ys.take k++rO (n-k) 0):=enc_fill ys k n hn
section
variable {H:List B} {k0:Nat}
def JB(H:List B)(k0:Nat)(xs:List Int):List B:=H.set k0 (.buf 2 1 (iL xs) false)
theorem JB_at(h:k0<H.length)(xs:List Int):(JB H k0 xs)[k0]?=some (.buf 2 1 (iL xs) false):=by
 unfold JB;rw[sA h]
theorem JB_set(xs xs':List Int):(JB H k0 xs).set k0 (.buf 2 1 (iL xs') false)=JB H k0 xs':=by
 unfold JB;rw[tC]
theorem deleteI_h(hk0:k0<H.length)(l:List Int)(n i:Nat)(hn:l.length=n)(hn2:n≤1000000)(hi:i<n):
  av Tryz.prog 28 [.buf k0 0 n n,.int .i64 i,.int .i64 ((i:Int)+1)] (JB H k0 l) fun r H'=>r = .buf k0 0 (n-1) n∧H'=JB H k0 (l.eraseIdx i++[0]):=by
 have g0:=JB_at hk0 l;have hnl:=gk l;obtain⟨j,hj⟩:∃j,j=i+1:=⟨_,rfl⟩
 have hji:((i:Int)+1)=(j:Int):=by omega
 rw[hji]
 have hne:¬(i:Int)=(j:Int):=by omega
 have hne2:¬i=j:=by omega
 obtain⟨m,hm⟩:∃m,m=n-1:=⟨_,rfl⟩
 have hmj:i+(n-j)=m:=by omega
 obtain⟨M,hM⟩:∃M,M=l.take i++(l.drop j++l.drop m):=⟨_,rfl⟩
 have hMl:M.length=n:=by rw[hM];simp;omega
 have hMt:M.take m=l.eraseIdx i:=by rw[hM,hj];exact del_takeI l i n m hn hi hm
 have hMc:iL M=uH i (iL l)++(uH (n-j) (vI j (iL l))++vI m (iL l)):=by
  rw[hM,rt (l:=vI j (iL l)) (i:=n-j) (by rw[tL,gk];omega)];simp only[iL,sX,tj,List.map_drop]
 have hfill:=iL_fill M m n hMl
 have hR:M.take m++rO (n-m) 0=l.eraseIdx i++[0]:=by rw[hMt,show n-m=1 by omega];rfl
 rw[hR]at hfill;rw[←hm];have g1:=JB_at hk0 M
 have hnM:(iL M).length=n:=by rw[gk,hMl]
 have hs1:=JB_set (H:=H) (k0:=k0) l M;have hs2:=JB_set (H:=H) (k0:=k0) M (l.eraseIdx i++[0]);generalize l.eraseIdx i++[0]=R at hfill hs2 ⊢;clear hM hMl hMt hR
 have s1:i≤n:=by omega
 have s2:j≤n:=by omega
 have s3:m≤n:=by omega
 have s4:¬m=n:=by omega
 have s5:¬n=m:=by omega
 have s6:¬n-m=0:=by omega
 have s7:¬i=n:=by omega
 refine aF tok Tryz.func28 rfl rfl ?_;refine wx ?_;simp -dsimp[Tryz.f28,rO,g0,hnl,hn,hne,hne2,show(i:Int)<n by omega,show i≤j by omega,show j≤n by omega]
 have s8:¬n=0:=by omega
 have s9:¬0=n:=by omega
 by_cases hi0:i=0
 ·subst hi0;rw[tq,rx]at hMc;by_cases hjn:j=n
  ·subst hjn;rw[tg,tq,rx,show m=0 by omega,rk]at hMc
   obtain rfl:m=0:=by omega
   obtain rfl:=iL_inj hMc;rw[tq,rx,uY]at hfill;refine aG (aW tok mixed [6] [] [] (by kernel_rfl) fun C K hC hK=>?_);simp -implicitDefEqProofs [g0,hnl,hn,s1,s2,s7,s8,s9,hs1];refine hK _ _ ?_;simp -dsimp[g1,hnM,s3,s4,s5,s6,hfill,hs2,s8,s9]
  ·have hmj0:n-j=m:=by omega
   rw[hmj0]at hMc;refine aG (aW tok mixed [6] [] [] (by kernel_rfl) fun C K hC hK=>?_);simp -implicitDefEqProofs [g0,hnl,hn,hjn,s1,s2,s7,s8,s9,hmj0,hMc.symm,hs1,s3];refine hK _ _ ?_;simp -dsimp[g1,hnM,s3,s4,s5,s6,hfill,hs2]
 ·by_cases hjn:j=n
  ·subst hjn;rw[tg,tq,rx,show m=i by omega]at hMc
   obtain rfl:m=i:=by omega
   rw[tG]at hMc;obtain rfl:=iL_inj hMc;refine aG (aW tok mixed [6] [] [] (by kernel_rfl) fun C K hC hK=>?_);simp -implicitDefEqProofs [g0,hnl,hn,hi0,s1,s2,s7,s8,s9,show ¬0=m by omega,hs1];refine hK _ _ ?_;simp -dsimp[g1,hnM,s3,s4,s5,s6,hfill,hs2,s8,s9]
  ·refine aG (aW tok mixed [6] [] [] (by kernel_rfl) fun C K hC hK=>?_);simp -implicitDefEqProofs [g0,hnl,hn,hi0,hjn,s1,s2,s7,s8,show ¬0=i by omega,hmj,hMc.symm,hs1,s3];refine hK _ _ ?_;simp -dsimp[g1,hnM,s3,s4,s5,s6,hfill,hs2]
end
end
section
def swpI(j:Nat)(l:List Int):List Int:=(l.set (j+1) (l.getD j 0)).set j (l.getD (j+1) 0)
def nq(lt:Int→Int→Bool):Nat→List Int→List Int
 | 0,l=>l
 | j+1,l=>if lt (l.getD (j+1) 0) (l.getD j 0)=true then nq lt j (swpI j l) else l
def isI(lt:Int→Int→Bool):Nat→Nat→List Int→List Int
 | 0,_,l=>l
 | r+1,i,l=>isI lt r (i+1) (nq lt i l)
theorem swpI_len(j:Nat)(l:List Int):(swpI j l).length=l.length:=by simp[swpI]
theorem sinkI_len(lt:Int→Int→Bool):∀(j:Nat) (l:List Int),(nq lt j l).length=l.length
 | 0,_=>rfl
 | j+1,l=>by
  rw[nq];split
  ·rw[sinkI_len lt j,swpI_len]
  ·rfl
theorem isI_len(lt:Int→Int→Bool):∀(r i:Nat) (l:List Int),(isI lt r i l).length=l.length
 | 0,_,_=>rfl
 | r+1,i,l=>by rw[isI,isI_len lt r,sinkI_len]
def ltI(a b:Int):Bool:=decide (a<b)
theorem iL_get{m:List Int}{x:Nat}(h:x<(iL m).length):(iL m)[x] = .int .i64 (m.getD x 0):=enc_get h
theorem iL_set(m:List Int)(x:Nat)(v:Int):(iL m).set x (.int .i64 v)=iL (m.set x v):=enc_set m x v
theorem JB_setk(H:List B)(k:Nat)(l l':List Int):(JB H k l).set k (.buf 2 1 (iL l') false)=JB H k l':=JB_set l l'
theorem qy(H:List B)(k:Nat)(l:List Int):(JB H k l).length=H.length:=by simp[JB]
theorem JB_rb{H:List B}(hH:∀bl∈H,rbB H.length bl)(k:Nat)(l:List Int):∀bl∈JB H k l,rbB (JB H k l).length bl:=fK hH (intB4_rb _ _ _ _)
section
variable {H:List B} {k:Nat}
theorem insOrdI_h(hk:k<H.length)(hH:∀bl∈H,rbB H.length bl)(l:List Int)(n:Nat)(hn:l.length=n)(hn2:n≤1000000):
  av Tryz.prog 159 [.buf k 0 n n,.int .i64 0,.int .i64 n] (JB H k l) fun _ H'=>H'=JB H k (isI ltI (n-1) 1 l):=by
 obtain⟨S,hS⟩:∃S,S=isI ltI (n-1) 1 l:=⟨_,rfl⟩;rw[←hS];have w1:IntKind.i64.wrap (1:Int)=1:=wrap64 (by omega) (by omega);refine aF tok Tryz.func159 rfl rfl ?_;refine wx ?_;simp -dsimp[Tryz.f159,rO,w1];refine aG (W_loopM 49 0x1fffffffffcc0 (by simp[mB]<;>rfl) (σ:=Nat×List Int) (fun p=>1≤p.1∧p.1≤n+1∧p.2.length=n∧isI ltI (n-p.1) p.1 p.2=S) (fun p=>n+1-p.1) (fun p=>[(6,.int .i64 p.1)]) (fun p=>JB H k p.2) (1,l) ⟨by simp,by simp,hn,hS.symm⟩ (by simp) (by simp) (by simp[qy]) ?_);rintro⟨i,l1⟩ ⟨hi,hi2,hl1,hx⟩ N Q hN hQ;simp only at hi hi2 hl1 hx hN;by_cases hb:i<n
 ·rw[show n-i=(n-(i+1))+1 by omega,isI]at hx;refine wx ?_;simp -dsimp[hb];refine aG (W_loopM 49 0x1ffffffff0080 (by simp[mB]<;>rfl) (σ:=Nat×List Int) (fun p=>p.1≤i∧p.2.length=n∧nq ltI p.1 p.2=nq ltI i l1) (fun p=>p.1) (fun p=>[(7,.int .i64 p.1)]) (fun p=>JB H k p.2) (i,l1) ⟨by simp,hl1,rfl⟩ (by simp) (by simp) (by simp[qy]) ?_);rintro⟨j,l2⟩ ⟨hj,hl2,hy⟩ N2 Q2 hN2 hQ2;simp only at hj hl2 hy hN2;have g9:=JB_at hk l2;have hnl:=gk l2
  cases j with
  | zero =>
   rw[nq]at hy;refine wx ?_;simp -dsimp[];refine .inr ⟨aC (by kernel_rfl),?_⟩;refine hQ2 _ _ _ ?_;simp -dsimp[aH i (by omega)];refine hN (i+1,l2) _ _ ⟨by simp only;omega,by simp only;omega,hl2,by rw[hy];exact hx⟩ (by simp only;omega) (by simp) ⟨[],by simp⟩ (by simp[qy];exact hk) (JB_rb hH k l2)
  | succ j =>
   rw[nq]at hy
   have a1:=fun h=>iL_get (m:=l2) (x:=j+1) h
   have a0:=fun h=>iL_get (m:=l2) (x:=j) h
   have wj:IntKind.i64.wrap (((j:Int)+1)-1)=(j:Int):=by rw[wrap64 (by omega) (by omega)];omega
   have wj2:IntKind.i64.wrap (j:Int)=(j:Int):=ai j (by omega)
   have hj1:j+1<n:=by omega
   have hj0:j<n:=by omega
   obtain⟨x,hxx⟩:∃x,x=l2.getD (j+1) 0:=⟨_,rfl⟩;obtain⟨y,hyy⟩:∃y,y=l2.getD j 0:=⟨_,rfl⟩;rw[←hxx,←hyy]at hy;rw[←hxx]at a1;rw[←hyy]at a0;have cl:=less64 x y;rw[show decide (x<y)=ltI x y from rfl]at cl
   cases hq:ltI x y with
   | true =>
    rw[hq]at cl;rw[if_pos hq]at hy;refine wx ?_;simp -dsimp[g9,hnl,hl2,hj1,hj0,a1,a0,wj,wj2,show(0:Int)≤(j:Int)+1 by omega,show(j:Int)+1<(n:Int) by omega];refine .inr ⟨aC (by kernel_rfl),?_⟩;refine aN _ (aK (cl) (by simp)) ?_;simp -dsimp[]
    have hsw:swpI j l2=(l2.set (j+1) y).set j x:=by unfold swpI;rw[←hxx,←hyy]
    have hst1:(iL l2).set (j+1) (.int .i64 y)=iL (l2.set (j+1) y):=iL_set l2 (j+1) y
    have hst2:(iL (l2.set (j+1) y)).set j (.int .i64 x)=iL (swpI j l2):=by rw[hsw];exact iL_set _ j x
    have q9:=JB_at hk (l2.set (j+1) y);have qs1:=JB_setk H k l2 (l2.set (j+1) y);have qs2:=JB_setk H k (l2.set (j+1) y) (swpI j l2);have qnl:=gk (l2.set (j+1) y);rw[se]at qnl
    have b0:=fun h=>iL_get (m:=l2.set (j+1) y) (x:=j) h
    refine aG (aW tok mixed [15,17] [(2,[1]),(3,[1]),(4,[1])] [] (by kernel_rfl) fun C K hC hK=>?_);simp -implicitDefEqProofs [g9,hnl,hl2,hj1,hj0,a1,a0,wj,wj2,hst1,hst2,q9,qs1,qs2,qnl,b0,show(0:Int)≤(j:Int)+1 by omega,show(j:Int)+1<(n:Int) by omega];refine hK _ _ ?_;simp -dsimp[wj,wj2];refine hN2 (j,swpI j l2) _ _ ⟨by simp only;omega,by rw[swpI_len];exact hl2,hy⟩ (by simp only;omega) (by simp) ⟨[],by simp⟩ (by simp[qy];exact hk) (JB_rb hH k _)
   | false =>
    rw[hq]at cl;rw[if_neg (by rw[hq];simp)]at hy;refine wx ?_;simp -dsimp[g9,hnl,hl2,hj1,hj0,a1,a0,wj,wj2,show(0:Int)≤(j:Int)+1 by omega,show(j:Int)+1<(n:Int) by omega];refine .inr ⟨aC (by kernel_rfl),?_⟩;refine aN _ (aK (cl) (by simp)) ?_;simp -dsimp[];refine hQ2 _ _ _ ?_;simp -dsimp[aH i (by omega)];refine hN (i+1,l2) _ _ ⟨by simp only;omega,by simp only;omega,hl2,by rw[hy];exact hx⟩ (by simp only;omega) (by simp) ⟨[],by simp⟩ (by simp[qy];exact hk) (JB_rb hH k l2)
 ·rw[show n-i=0 by omega,isI]at hx;subst hx;refine wx ?_;simp -dsimp[hb];refine hQ _ _ _ ?_;simp -dsimp[]
theorem sortI_h(hk:k<H.length)(hH:∀bl∈H,rbB H.length bl)(l:List Int)(n:Nat)(hn:l.length=n)(hn2:n≤12):
  av Tryz.prog 60 [.buf k 0 n n] (JB H k l) fun _ H'=>H'=JB H k (isI ltI (n-1) 1 l):=by
 obtain⟨v,hv⟩:=bitsLen n hn2;have c1:=insOrdI_h hk hH l n hn (by omega)
 have c2:av Tryz.prog 104 [.buf k 0 n n,.int .i64 0,.int .i64 n,.int .i64 v] (JB H k l) fun _ H'=>H'=JB H k (isI ltI (n-1) 1 l):=by
  have w0:IntKind.i64.wrap (n:Int)=n:=ai n (by omega);refine aF tok Tryz.func104 rfl rfl ?_;refine wx ?_;simp -dsimp[Tryz.f104,rO];refine aG (W_loopM 134 0x3fffffffffffffffffffffffffffffff0e (by simp[mB]<;>rfl) (σ:=Nat) (fun p=>p=0) (fun p=>0) (fun _=>[(8,.bool true),(9,.bool true),(1,.int .i64 0),(2,.int .i64 n),(3,.int .i64 v)]) (fun _=>JB H k l) 0 rfl (by simp) (by simp) (by simp) ?_);rintro p rfl N Q hN hQ;refine wx ?_;simp -dsimp[w0,show(n:Int)≤12 by omega,show n≤12 by omega];refine bD c1 ?_;rintro _ _ rfl;simp -dsimp[];refine hQ _ _ _ ?_;simp -dsimp[]
 have wu:IntKind.u64.wrap (n:Int)=(n:Int):=by rw[IntKind.wrap_u64];omega
 have g9:=JB_at hk l;have hnl:=gk l;refine aF tok Tryz.func60 rfl rfl ?_;refine wx ?_;simp -dsimp[Tryz.f60,rO,g9,hnl,hn,wu];refine cPx hv (by simp) ?_;simp -dsimp[];refine bD c2 ?_;rintro _ _ rfl;simp -dsimp[]
end
end
end
end Go.Proofs.YtjogkbekekdkjaaGreatDoor
