/- JQ5: own texts of this seat, joined and shortened by pack.py: S6, Gr, Cl, X5, X7, Q1, Q10, LayC, S5, Lo, Dn, GrN, CatN, CatC, DrK, Y5, Q4, Q5, H5. -/
import Derived.Test.YteijbpppalhihaaGreatJQ4
import Derived.WalkKit
import Derived.Lib.Walk
import Derived.Lib.SliceRun
import Derived.Lib.AppendZerosOnto
import Derived.OwnWalk
import Derived.WalkSpells
import Derived.WalkLawsBesides
import Derived.Lib.Hide
import Derived.Maps.AppendAt
import Derived.Shelf.SlSortCmp.NoneTotal
set_option linter.unusedVariables false
set_option linter.unusedSimpArgs false
set_option maxRecDepth 100000
set_option maxHeartbeats 64000000
namespace Go.Proofs.YteijbpppalhihaaGreat
section
open Go Go.AM
section
def crL(m:List Cr):List V:=m.map aN
theorem bd(m:List Cr):(crL m).length=m.length:=by simp[crL]
theorem mQ{m:List Cr}{x:Nat}(h:x<(crL m).length):(crL m)[x] = .agg [.int .i64 (cAt m x).id,.int .i64 (cAt m x).attr]:=by
 have h2:x<m.length:=by simpa[crL] using h
 simp[crL,aN,cAt,h2]
theorem crL_set(m:List Cr)(x:Nat)(v:Cr):(crL m).set x (.agg [.int .i64 v.id,.int .i64 v.attr])=crL (m.set x v):=by
 unfold crL;rw[List.map_set];rfl
theorem mP(m:List Cr):∀x∈crL m,AM.Pure x∧dm x=true:=by
 intro x hx;obtain⟨c,_,rfl⟩:=List.mem_map.1 hx;exact⟨encCr_pure c,rfl⟩
theorem gN(n e:Nat)(m:List Cr)(fz:Bool):rbB n (.buf e 2 (crL m) fz):=(rbB_LC n e 2 m fz).2 trivial
section
variable {H:List B} {k0:Nat}
def CB(H:List B)(k0:Nat)(m:List Cr):List B:=H.set k0 (.buf 49 2 (crL m) false)
theorem CB_at(h:k0<H.length)(m:List Cr):(CB H k0 m)[k0]?=some (.buf 49 2 (crL m) false):=by
 unfold CB;rw[List.getElem?_set_self h]
theorem CB_set(m m':List Cr):(CB H k0 m).set k0 (.buf 49 2 (crL m') false)=CB H k0 m':=by
 unfold CB;rw[List.set_set]
theorem qg(m:List Cr):(CB H k0 m).length=H.length:=by simp[CB]
theorem CB_rb(hH:∀bl∈H,rbB H.length bl)(m:List Cr):∀bl∈CB H k0 m,rbB (CB H k0 m).length bl:=fO hH (gN _ _ _ _)
end
instance:DecidableEq Cr:=fun a b=>decidable_of_iff _ Cr.eq_iff.symm
def cpF(l:List Cr):Nat→List Cr
 | 0=>[]
 | 1=>[cAt l 0]
 | p+2=>if cAt l (p+1)=cAt l p then cpF l (p+1) else cpF l (p+1)++[cAt l (p+1)]
def eW(l:List Cr):List Cr:=cpF l l.length
theorem oe{l:List Cr}{p:Nat}(hp:1≤p)(h:cAt l p=cAt l (p-1)):cpF l (p+1)=cpF l p:=by
 obtain⟨q,rfl⟩:∃q,p=q+1:=⟨p-1,by omega⟩;rw[cpF,if_pos (by simpa using h)]
theorem cpF_no{l:List Cr}{p:Nat}(hp:1≤p)(h:¬cAt l p=cAt l (p-1)):cpF l (p+1)=cpF l p++[cAt l p]:=by
 obtain⟨q,rfl⟩:∃q,p=q+1:=⟨p-1,by omega⟩;rw[cpF,if_neg (by simpa using h)]
theorem cpF_len(l:List Cr):∀p,(cpF l p).length≤p
 | 0=>by simp[cpF]
 | 1=>by simp[cpF]
 | p+2=>by
  have:=cpF_len l (p+1);rw[cpF];split
  ·omega
  ·simp;omega
theorem cpF_pos(l:List Cr):∀p,1≤p→1≤(cpF l p).length
 | 0,h=>by omega
 | 1,_=>by simp[cpF]
 | p+2,_=>by
  have:=cpF_pos l (p+1) (by omega);rw[cpF];split
  ·exact this
  ·simp
theorem iG{l:List Cr}{k:Nat}(h:k<l.length):l.take (k+1)=l.take k++[cAt l k]:=by
 rw[List.take_succ_eq_append_getElem h,jF h]
structure CpI (l ys:List Cr) (kk p:Nat):Prop where
 lt:kk<p
 len:ys.length=l.length
 tk:ys.take kk=cpF l p
 kl:kk=(cpF l p).length
 hi:∀i,p-1≤i→cAt ys i=cAt l i
theorem CpI.start{l:List Cr}{k:Nat}(hk:1≤k)(hl:k<l.length)(h:cpF l k=l.take k)(he:cAt l k=cAt l (k-1)):CpI l l k (k+1):=
 ⟨by omega,rfl,by rw[oe hk he,h],by rw[oe hk he,h];simp;omega,fun _ _=>rfl⟩
theorem CpI.skip{l ys:List Cr}{kk p:Nat}(h:CpI l ys kk p)(hp:1≤p)(he:cAt l p=cAt l (p-1)):CpI l ys kk (p+1):=
 ⟨by have:=h.lt;omega,h.len,by rw[oe hp he];exact h.tk,by rw[oe hp he];exact h.kl,fun i hi=>h.hi i (by omega)⟩
theorem CpI.keep{l ys:List Cr}{kk p:Nat}(h:CpI l ys kk p)(hp:1≤p)(hpl:p<l.length)(he:¬cAt l p=cAt l (p-1)):CpI l (ys.set kk (cAt l p)) (kk+1) (p+1):=by
 have h1:=h.lt;have h2:=h.len;refine⟨by omega,by simp[h2],?_,by rw[cpF_no hp he];have:=h.kl;simp;omega,fun i hi=>?_⟩
 ·rw[cpF_no hp he,←h.tk,iG (by simp;omega),List.take_set_of_le (by omega)];congr 2;simp[cAt,show kk<ys.length by omega]
 ·rw[←h.hi i (by omega)];unfold cAt;simp only[List.getD_eq_getElem?_getD];rw[List.getElem?_set_ne (by omega)]
theorem CpI.done{l ys:List Cr}{kk:Nat}(h:CpI l ys kk l.length):eW l=ys.take kk∧(eW l).length=kk:=⟨h.tk.symm,h.kl.symm⟩
section
variable {H:List B} {k0:Nat}
theorem crL_fill(ys:List Cr)(kk n:Nat)(hn:ys.length=n):List.take kk (crL ys)++(List.replicate (n-kk) (V.agg [.int .i64 0,.int .i64 0])++List.drop n (crL ys))=crL (ys.take kk++List.replicate (n-kk) ⟨0,0⟩):=by
 unfold crL;rw[List.drop_of_length_le (by simp;omega),List.append_nil,List.map_append,List.map_replicate,List.map_take];rfl
theorem compact_h(hk0:k0<H.length)(hH:∀bl∈H,rbB H.length bl)(l:List Cr)(n:Nat)(hn:l.length=n)(hn2:n≤1000000):
  bA Tryz.prog 102 [.buf k0 0 n n] (CB H k0 l) fun r H'=>r = .buf k0 0 (eW l).length n∧H'=CB H k0 (eW l++List.replicate (n-(eW l).length) ⟨0,0⟩):=by
 have g0:=CB_at hk0 l;have hnl:=bd l;by_cases h2:n<2
 ·have hc:eW l=l:=by
   unfold eW
   match l,hn with
   | [],_=>rfl
   | [x],_=>rfl
   | _::_::_,hn=>simp at hn;omega
  rw[hc,hn,Nat.sub_self,List.replicate_zero,List.append_nil];refine aD tok Tryz.func102 rfl rfl ?_;refine wx ?_;simp -implicitDefEqProofs -dsimp[Tryz.f102,List.replicate,g0,hnl,hn,h2,show(n:Int)<2 by omega]
 ·obtain⟨R,hR⟩:∃R,R=eW l++List.replicate (n-(eW l).length) ⟨0,0⟩:=⟨_,rfl⟩;obtain⟨m,hm⟩:∃m,m=(eW l).length:=⟨_,rfl⟩;rw[←hR,←hm];refine aD tok Tryz.func102 rfl rfl ?_;refine wx ?_;simp -implicitDefEqProofs -dsimp[Tryz.f102,List.replicate,g0,hnl,hn,h2,show ¬(n:Int)<2 by omega];refine aK (W_loopM 60 [2,3,4,5,10,11,12,13,14,15,16,17,18,19,20,21,22,23,24,25,26,27,28,29,30,31,32,33,34,35,36,37,38,39,40,41,42,43,44,45,46,47,48,49,50,51,52,53,54,55,56,57,58,59] (by simp[mB]<;>rfl) (σ:=Nat) (fun k=>1≤k∧k≤n∧cpF l k=l.take k) (fun k=>n-k) (fun k=>[(3,.int .i64 k)]) (fun _=>CB H k0 l) 1 ⟨by omega,by omega,by rw[iG (k:=0) (by omega)];rfl⟩ (by simp) (by simp) (by simp[qg]) ?_);rintro k ⟨hk,hkn,hx⟩ N Q hN hQ;by_cases hb:k<n
  ·obtain⟨q,rfl⟩:∃q,k=q+1:=⟨k-1,by omega⟩
   have a1:=fun h=>mQ (m:=l) (x:=q+1) h
   have a0:=fun h=>mQ (m:=l) (x:=q) h
   have wq:IntKind.i64.wrap (((q:Int)+1)-1)=(q:Int):=by rw[wrap64 (by omega) (by omega)];omega
   have hq:q<n:=by omega
   have w2:IntKind.i64.wrap ((q:Int)+1+1)=(q:Int)+1+1:=wrap64 (by omega) (by omega);obtain⟨x,hxx⟩:∃x,x=cAt l (q+1):=⟨_,rfl⟩;obtain⟨y,hyy⟩:∃y,y=cAt l q:=⟨_,rfl⟩;rw[←hxx]at a1;rw[←hyy]at a0;by_cases he:x=y
   ·have heq:(x.id == y.id&&x.attr == y.attr)=true:=by subst he;simp
    refine wx ?_;simp -implicitDefEqProofs -dsimp[g0,hnl,hn,hb,a1,a0,wq,hq,iD q (by omega),show(0:Int)≤(q:Int)+1 by omega,show(q:Int)+1<(n:Int) by omega,eqCr,heq];refine .inr ⟨aI (by kernel_rfl),?_⟩;simp -implicitDefEqProofs -dsimp[hkn,show ¬q+1=n by omega];refine aK (W_loopM 54 [3,5,29,30,31,32,33,34,35,36,37,38,39,40,41,42,43,44,45,46,47,48,49,50,51,52,53] (by simp[mB]<;>rfl) (σ:=Nat×Nat×List Cr) (fun p=>1≤p.2.1∧q+1+p.2.1≤n∧CpI l p.2.2 p.1 (q+1+p.2.1)) (fun p=>n-p.2.1) (fun p=>[(3,.int .i64 p.1),(5,.int .i64 p.2.1),(4,.buf k0 (q+1) (n-(q+1)) n)]) (fun p=>CB H k0 p.2.2) (q+1,1,l) ⟨Nat.le_refl _,by show q+1+1≤n;omega,CpI.start (by omega) (by omega) hx (by rw[show q+1-1=q by omega,←hxx,←hyy];exact he)⟩ (by simp) (by simp) (by simp[qg]) ?_);rintro⟨kk,k2,ys⟩ ⟨i1,i2,I⟩ N2 Q2 hN2 hQ2;simp only at i1 i2 I hN2;have g1:=CB_at hk0 ys;have ynl:=bd ys
    have yl:ys.length=n:=by rw[I.len,hn]
    have hlt:=I.lt;by_cases hb2:q+1+k2<n
    ·obtain⟨r,rfl⟩:∃r,k2=r+1:=⟨k2-1,by omega⟩;obtain⟨u,hu⟩:∃u,u=cAt l (q+1+(r+1)):=⟨_,rfl⟩;obtain⟨v,hv⟩:∃v,v=cAt l (q+1+r):=⟨_,rfl⟩
     have b1:=fun h=>mQ (m:=ys) (x:=q+1+(r+1)) h
     have b0:=fun h=>mQ (m:=ys) (x:=q+1+r) h
     rw[I.hi _ (by omega),←hu]at b1;rw[I.hi _ (by omega),←hv]at b0
     have wr:IntKind.i64.wrap (((r:Int)+1)-1)=(r:Int):=by rw[wrap64 (by omega) (by omega)];omega
     have wr1:IntKind.i64.wrap (r:Int)=(r:Int):=iD r (by omega);have wr2:IntKind.i64.wrap ((r:Int)+1+1)=(r:Int)+1+1:=wrap64 (by omega) (by omega);obtain⟨d,hd⟩:∃d,d=n-(q+1):=⟨_,rfl⟩;rw[←hd];by_cases huv:u=v
     ·have heq2:(u.id == v.id&&u.attr == v.attr)=true:=by subst huv;simp
      refine wx ?_;simp -implicitDefEqProofs -dsimp[g1,ynl,yl,hb2,show q+1+r<n by omega,b1,b0,wr,wr1,wr2,eqCr,heq2,show(r:Int)+1<(d:Int) by omega,show r+1<d by omega,show r<d by omega,show(0:Int)≤(r:Int)+1 by omega];refine .inr ⟨aI (by kernel_rfl),?_⟩;refine hN2 (kk,r+1+1,ys) _ _ ⟨by simp only;omega,by simp only;omega,I.skip (by omega) (by rw[show q+1+(r+1)-1=q+1+r by omega,←hu,←hv];exact huv)⟩ (by simp only;omega) (by simp[hd]) ⟨[],by simp⟩ (by simp[qg];exact hk0) (CB_rb hH ys)
     ·have heq2:(u.id == v.id&&u.attr == v.attr)=false:=by
       cases h:(u.id == v.id&&u.attr == v.attr)
       ·rfl
       ·rw[Bool.and_eq_true,beq_iff_eq,beq_iff_eq]at h;exact absurd (Cr.eq_iff.2 h) huv
      have hkn2:kk<n:=by omega
      have c0:=fun h=>mQ (m:=ys) (x:=kk) h
      have hst:=crL_set ys kk u;have hcs:=CB_set (H:=H) (k0:=k0) ys (ys.set kk u);have wk:IntKind.i64.wrap ((kk:Int)+1)=(kk:Int)+1:=wrap64 (by omega) (by omega);have hI2:=I.keep (by omega) (by rw[hn];omega) (by rw[show q+1+(r+1)-1=q+1+r by omega,←hu,←hv];exact huv);rw[←hu]at hI2;refine wx ?_;simp -implicitDefEqProofs -dsimp[g1,ynl,yl,hb2,show q+1+r<n by omega,b1,b0,wr,wr1,wr2,eqCr,heq2,show(r:Int)+1<(d:Int) by omega,show r+1<d by omega,show r<d by omega,show(0:Int)≤(r:Int)+1 by omega];refine .inr ⟨aI (by kernel_rfl),?_⟩;simp -implicitDefEqProofs -dsimp[g1,ynl,yl,hb2,hkn2,b1,c0,hst,hcs,wk,wr2,show r+1<d by omega,show(r:Int)+1<(d:Int) by omega,show(0:Int)≤(r:Int)+1 by omega];refine hN2 (kk+1,r+1+1,ys.set kk u) _ _ ⟨by simp only;omega,by simp only;omega,hI2⟩ (by simp only;omega) (by simp[hd]) ⟨[],by simp⟩ (by simp[qg];exact hk0) (CB_rb hH _)
    ·obtain⟨d,hd⟩:∃d,d=n-(q+1):=⟨_,rfl⟩;rw[←hd]
     have hpn:q+1+k2=n:=by omega
     rw[hpn,←hn]at I;obtain⟨e1,e2⟩:=I.done
     have hmk:m=kk:=by rw[hm];exact e2
     have hkl:kk<n:=by have:=I.lt;omega
     have hfill:=crL_fill ys kk n yl;have hcs:=CB_set (H:=H) (k0:=k0) ys (ys.take kk++List.replicate (n-kk) ⟨0,0⟩)
     have hRR:R=ys.take kk++List.replicate (n-kk) ⟨0,0⟩:=by rw[hR,e2,e1]
     have hkp:1≤kk:=by rw[←e2];exact cpF_pos l l.length (by omega)
     have g2:=CB_at hk0 (ys.take kk++List.replicate (n-kk) ⟨0,0⟩)
     have hRl:(crL (ys.take kk++List.replicate (n-kk) ⟨0,0⟩)).length=n:=by rw[bd,←hRR,hR,e2,e1,List.length_append,List.length_take,List.length_replicate];omega
     rw[←hRR]at hfill hcs g2 hRl;refine wx ?_;simp -implicitDefEqProofs -dsimp[g1,ynl,yl,show ¬(k2:Int)<(d:Int) by omega,show ¬k2<d by omega];refine hQ2 _ _ _ ?_;simp -implicitDefEqProofs -dsimp[g1,ynl,yl,hkl,show kk≤n by omega,show ¬kk=n by omega,hfill,hcs,g2,hRl,show ¬n-kk=0 by omega,show ¬0=kk by omega];refine hQ _ _ _ ?_;simp -implicitDefEqProofs -dsimp[];exact hmk.symm
   ·have heq:(x.id == y.id&&x.attr == y.attr)=false:=by
     cases h:(x.id == y.id&&x.attr == y.attr)
     ·rfl
     ·rw[Bool.and_eq_true,beq_iff_eq,beq_iff_eq]at h;exact absurd (Cr.eq_iff.2 h) he
    refine wx ?_;simp -implicitDefEqProofs -dsimp[g0,hnl,hn,hb,a1,a0,wq,hq,iD q (by omega),w2,show(0:Int)≤(q:Int)+1 by omega,show(q:Int)+1<(n:Int) by omega,eqCr,heq];refine .inr ⟨aI (by kernel_rfl),?_⟩;refine hN (q+1+1) _ _ ⟨by omega,by omega,by rw[cpF_no (by omega) (by rw[show q+1-1=q by omega,←hxx,←hyy];exact he),hx,iG (k:=q+1) (by omega)]⟩ (by omega) (by simp) ⟨[],by simp⟩ (by simp[qg];exact hk0) (CB_rb hH l)
  ·obtain rfl:k=n:=by omega
   refine wx ?_;simp -implicitDefEqProofs -dsimp[g0,hnl,hn,hb];refine hQ _ _ _ ?_;simp -implicitDefEqProofs -dsimp[]
   have hcl:eW l=l:=by
    unfold eW;rw[hn,hx,←hn,List.take_length]
   rw[hm,hR,hcl,hn,Nat.sub_self,List.replicate_zero,List.append_nil];exact⟨rfl,rfl⟩
end
end
end
end Go.Proofs.YteijbpppalhihaaGreat
namespace Go.Proofs.YteijbpppalhihaaGreat
section
open Go Go.AM Go.RowKit Go.Lib
theorem conO_row{f:FuncId}{args:List V}{e z:Nat}(hE:AM.Enters Tryz.prog f)(h:∀(F:Nat→Prop) (w:World) (vals:Array Value),vals.size=args.length→(∀(i:Nat) a u,args[i]?=some a→vals[i]?=some u→Rel (AM.base F w) a u)→
  Calls Tryz.prog f vals w fun e' w'=>∃v,e' = .returned v∧Below w.heap.size w w'∧(v = .slice none 0 0∨∃g c cur,v = .slice (some ⟨g,0,none⟩) 0 c∧w.heap.size≤g∧w'.heap[g]?=some (.cells cur e (0,0))∧c≠0∧c≤maxLen∧cur.size=c*z)):kX Tryz.prog f args fun e' z' ys=>e'=e∧z'=z∧ys=[]:=by
 refine⟨hE,fun F w vals hZ hF hsz hrel=>(h F w vals hsz hrel).mono fun e' w' ⟨v,he,hb,hv⟩=>?_⟩
 rcases hv with hv | ⟨g,c,cur,hv,hg,hc,hn,hm,hs⟩
 ·have hF':∀b,F b→b<w'.heap.size:=fun b hb'=>Nat.lt_of_lt_of_le (hF b hb') hb.size
  obtain⟨p1,_⟩:=nc (AM.base_good hF') (w:=w') 0 e z false rfl rfl rfl (Nat.le_refl _) (fun _ _=>rfl);refine⟨v,e,z,[],none,0,0,he,hv,fun h=>absurd rfl h,by simp,fun h=>absurd rfl h,?_,hb,rfl,rfl,rfl⟩;refine⟨hF',fun k hk=>absurd (hk.2 e z [] false (by have:=hk.1;simp at this;subst this;rfl)) (by simp),fun j k hj hk _=>by have:=hj.1;have:=hk.1;simp at *;omega,fun k bl hk=>?_⟩
  have hk0:k=0:=by have:=aE hk;simp at this;omega
  subst hk0;simp at hk;subst hk;exact⟨#[],fun h=>absurd rfl h,by simp,by simp,by simp[maxLen],(fun x hx=>by cases hx),(fun i x j c u hx=>by simp at hx)⟩
 ·have hF':∀b,F b→b<w'.heap.size:=fun b hb'=>Nat.lt_of_lt_of_le (hF b hb') hb.size
  refine⟨v,e,z,[],some ⟨g,0,none⟩,g,c,he,hv,fun _=>rfl,by simp,fun _=>hg,?_,hb,rfl,rfl,rfl⟩;refine⟨hF',fun k hk=>⟨(Array.getElem?_eq_some_iff.1 hc).1,fun hf=>by have:=hF g hf;omega⟩,fun j k hj hk _=>by have:=hj.1;have:=hk.1;simp at *;omega,fun k bl hk=>?_⟩
  have hk0:k=0:=by have:=aE hk;simp at this;omega
  subst hk0;simp at hk;subst hk;exact⟨cur,fun _=>hc,by simpa using hs,by simp,hm,(fun x hx=>by cases hx),(fun i x j c u hx=>by simp at hx)⟩
theorem infoG_C:(Tryz.prog.info? 49).map (fun i=>(i.zero,i.size,i.bytes))=some (some (.agg #[.int .i64 0,.int .i64 0]),2,16):=by kernel_rfl
theorem growPos_C(n:Nat)(w:World)(h0:0<n)(hn:n≤1000000):Calls Tryz.prog 137 #[.slice none 0 0,.int .i64 n] w fun e w' =>
   e = .returned (.slice (some ⟨w.heap.size,0,none⟩) 0 (grownCap w n 0 49))∧w'=w.drew.alloc (.cells (Builtin.zeroCells (.agg #[.int .i64 0,.int .i64 0]:Value).cells n++Builtin.zeroCells (.agg #[.int .i64 0,.int .i64 0]:Value).cells (grownCap w n 0 49-n)) 49):=by
 obtain⟨i0,hi0,hz0,hs0,hby⟩:=info_parts infoG_C
 have h1:¬((n:Int)<0):=by omega
 have hz25:∀w,(Go.sizeOf 49).run Tryz.prog w = .ok 2 w:=fun w=>by simp[Go.sizeOf,typeInfo,hi0,hs0]
 have hold:(Builtin.firstCells i0.size 0 (.slice none 0 0)).run Tryz.prog w.drew = .ok ([]:List Value).toArray w.drew:=run_firstCells_none w.drew i0.size 0 0 0
 have hbig:(0+n)*i0.bytes≤140737488355328:=by rw[hby];omega
 have hrz:∀ty,(Builtin.append_ #[37,3] ty #[.slice none 0 0,.int .i64 (n:Int)]).run Tryz.prog w =
   .ok (.slice (some ⟨w.heap.size,0,none⟩) n (grownCap w n 0 49)) (w.drew.alloc (.cells (Builtin.zeroCells (.agg #[.int .i64 0,.int .i64 0]:Value).cells n++Builtin.zeroCells (.agg #[.int .i64 0,.int .i64 0]:Value).cells (grownCap w n 0 49-n)) 49)):=fun ty=>by
  have h:=Lib.run_append_grow_zeros (P:=Tryz.prog) w 37 3 ty 49 i0 _ .i64 .i64 Tryz.underlying37 Tryz.underlying3 hi0 hz0 none 0 0 [] hold n h0 (by omega) (by omega) (by omega)
   (by rw[hby];omega)
   (growslice_fits (by omega) hbig)
  simpa using h
 have hGn:n≤grownCap w n 0 49:=grownCap_ge w _ _ _;obtain⟨G,hG⟩:∃G,G=grownCap w n 0 49:=⟨_,rfl⟩;rw[←hG]at hrz hGn ⊢
 have hG63:G≤9223372036854775807:=by
  have:=grownCap_le_maxLen w n 0 49 (by unfold maxLen;omega);rw[←hG]at this;unfold maxLen at this;omega
 have h2:RowKit.wrap64 ((0:Int)-0)=0:=by unfold RowKit.wrap64;omega
 have h3:RowKit.wrap64 ((n:Int)-0)=(n:Int):=by unfold RowKit.wrap64;omega
 have h4:(n:Int)> 0:=by omega
 clear hold hG hbig
 go_enter Tryz.func137,Tryz.ntmps137
 go_wp2_with (at_builtin;refine Lib.wpList_append_run _ rfl _ _ _ _ rfl _ _ rfl rfl _ _ (hrz _) ?_)
 all_goals (go_ret;exact⟨rfl,rfl⟩)
theorem growNil_C(w:World):Calls Tryz.prog 137 #[.slice none 0 0,.int .i64 0] w fun e w'=>e = .returned (.slice none 0 0)∧w'=w:=by
 go_enter Tryz.func137,Tryz.ntmps137
 go_wp2
 go_ret
 exact⟨rfl,rfl⟩
theorem ku(n:Nat)(hn:n≤1000000):kX Tryz.prog 137 [.nilS,.int .i64 n] fun e z ys=>e=49∧z=2∧ys=[]:=by
 refine conO_row ⟨Tryz.f137,Tryz.func137,rfl,rfl⟩ (fun F w vals hsz hrel=>?_)
 obtain⟨u0,u1,rfl⟩:∃u0 u1,vals = #[u0,u1]:=by
  obtain⟨l⟩:=vals
  match l,hsz with
  | [a,b],_=>exact⟨a,b,rfl⟩
 have r0:=hrel 0 _ u0 rfl rfl;have r1:=hrel 1 _ u1 rfl rfl;cases r0;cases r1;by_cases h0:n=0
 ·subst h0
  exact(growNil_C w).mono fun e w' ⟨h1,h2⟩=>⟨_,h1,by subst h2;exact Below.refl _ _,.inl rfl⟩
 ·refine(growPos_C n w (by omega) hn).mono fun e w' ⟨h1,h2⟩=>?_
  subst h2;have hge:=grownCap_ge w n 0 49;refine⟨_,h1,((Below.refl _ _).drew).alloc (Nat.le_refl _) _,.inr ⟨w.heap.size,grownCap w n 0 49,Builtin.zeroCells (.agg #[.int .i64 0,.int .i64 0]:Value).cells n++Builtin.zeroCells (.agg #[.int .i64 0,.int .i64 0]:Value).cells (grownCap w n 0 49-n),rfl,Nat.le_refl _,?_,by omega,grownCap_le_maxLen w n 0 49 (by unfold maxLen;omega),?_⟩⟩
  ·exact Array.getElem?_push_size (xs:=w.heap)
  ·rw[Array.size_append,size_zeroCells,size_zeroCells,←Nat.add_mul,Nat.add_sub_cancel' hge];rfl
theorem grow_nil_C:aR Tryz.prog 137 [.nilS,.int .i64 0] fun r=>r = .nilS:=by
 refine⟨⟨Tryz.f137,Tryz.func137,rfl,rfl⟩,fun F w vals hZ hF hsz hrel=>?_⟩
 obtain⟨u0,u1,rfl⟩:∃u0 u1,vals = #[u0,u1]:=by
  obtain⟨l⟩:=vals
  match l,hsz with
  | [a,b],_=>exact⟨a,b,rfl⟩
 have r0:=hrel 0 _ u0 rfl rfl;have r1:=hrel 1 _ u1 rfl rfl;cases r0;cases r1
 refine(growNil_C w).mono fun e w' ⟨h1,h2⟩=>⟨_,_,h1,.nilS,.nilS,by subst h2;exact Below.refl _ _,rfl⟩
end
end Go.Proofs.YteijbpppalhihaaGreat
namespace Go.Proofs.YteijbpppalhihaaGreat
section
open Go Go.AM Go.RowKit
theorem nR{f:FuncId}{args:List V}{e z:Nat}(hE:AM.Enters Tryz.prog f)(h:∀(F:Nat→Prop) (w:World) (vals:Array Value),vals.size=args.length→(∀(i:Nat) a u,args[i]?=some a→vals[i]?=some u→Rel (AM.base F w) a u)→
  Calls Tryz.prog f vals w fun e' w'=>∃v,e' = .returned v∧Below w.heap.size w w'∧(v = .slice none 0 0∨∃g c cur,v = .slice (some ⟨g,0,none⟩) 0 c∧w.heap.size≤g∧w'.heap[g]?=some (.cells cur e (0,0))∧c≤maxLen∧cur.size=c*z)):kX Tryz.prog f args fun e' z' ys=>e'=e∧z'=z∧ys=[]:=by
 refine⟨hE,fun F w vals hZ hF hsz hrel=>(h F w vals hsz hrel).mono fun e' w' ⟨v,he,hb,hv⟩=>?_⟩
 rcases hv with hv | ⟨g,c,cur,hv,hg,hc,hm,hs⟩
 ·have hF':∀b,F b→b<w'.heap.size:=fun b hb'=>Nat.lt_of_lt_of_le (hF b hb') hb.size
  obtain⟨p1,_⟩:=nc (AM.base_good hF') (w:=w') 0 e z false rfl rfl rfl (Nat.le_refl _) (fun _ _=>rfl);refine⟨v,e,z,[],none,0,0,he,hv,fun h=>absurd rfl h,by simp,fun h=>absurd rfl h,?_,hb,rfl,rfl,rfl⟩;refine⟨hF',fun k hk=>absurd (hk.2 e z [] false (by have:=hk.1;simp at this;subst this;rfl)) (by simp),fun j k hj hk _=>by have:=hj.1;have:=hk.1;simp at *;omega,fun k bl hk=>?_⟩
  have hk0:k=0:=by have:=aE hk;simp at this;omega
  subst hk0;simp at hk;subst hk;exact⟨#[],fun h=>absurd rfl h,by simp,by simp,by simp[maxLen],(fun x hx=>by cases hx),(fun i x j c u hx=>by simp at hx)⟩
 ·have hF':∀b,F b→b<w'.heap.size:=fun b hb'=>Nat.lt_of_lt_of_le (hF b hb') hb.size
  refine⟨v,e,z,[],some ⟨g,0,none⟩,g,c,he,hv,fun _=>rfl,by simp,fun _=>hg,?_,hb,rfl,rfl,rfl⟩;refine⟨hF',fun k hk=>⟨(Array.getElem?_eq_some_iff.1 hc).1,fun hf=>by have:=hF g hf;omega⟩,fun j k hj hk _=>by have:=hj.1;have:=hk.1;simp at *;omega,fun k bl hk=>?_⟩
  have hk0:k=0:=by have:=aE hk;simp at this;omega
  subst hk0;simp at hk;subst hk;exact⟨cur,fun _=>hc,by simpa using hs,by simp,hm,(fun x hx=>by cases hx),(fun i x j c u hx=>by simp at hx)⟩
theorem infoD_C:(Tryz.prog.info? 49).map (fun i=>(i.zero,i.size,i.bytes))=some (some (.agg #[.int .i64 0,.int .i64 0]),2,16):=by kernel_rfl
theorem cloneE_C(A:Option Addr)(cap:Nat)(w:World):
  Calls Tryz.prog 16 #[.slice A 0 cap] w fun e w'=>∃v,e = .returned v∧w'.ownsRow w.heap.size 49 2 v 0 []∧Below w.heap.size w w':=by
 have hnil:=fun W A n c=>Lib.run_eql_slice_nil (P:=Tryz.prog) W 37 49 A n c 0 0 Tryz.underlying37
 cases A with
 | none =>
  go_enter Tryz.func16,Tryz.ntmps16
  go_wp2
  go_ret
  exact⟨_,rfl,World.ownsRow_nil _ _ _ _,Below.refl _ _⟩
 | some ad =>
  obtain⟨i0,hi,hz0,hz1,hz2⟩:=info_parts infoD_C;have hown:(w.alloc (.cells #[] 49)).ownsRow w.heap.size 49 2 (.slice (some ⟨w.heap.size,0,none⟩) 0 0) 0 []:=World.ownsRow_lit w #[] 0 (Nat.le_refl _) (by simp[maxLen]) (by simp)
  have hnews:∀j u,([]:List Value)[j]?=some u→(w.alloc (.cells #[] 49)).cell? (ad.add j)=some u:=by
   intro j u hu;simp at hu
  have hone:∀u∈([]:List Value),u.oneCell'=true:=by intro u hu;cases hu
  have h63:0+0≤maxLen:=by simp[maxLen]
  have hby:(0+0)*16≤140737488355328:=by omega
  have hlen:([]:List Value).length=0*2:=by simp
  have Hi:=Lib.hid (show Tryz.prog.info? 49=some i0∧i0.zero=some _∧i0.size=2∧i0.bytes=16 from⟨hi,hz0,hz1,hz2⟩);have Hw:=Lib.hid (And.intro hown (And.intro hnews (And.intro hone (And.intro h63 (And.intro hby hlen)))));clear hnews hone hown hi hz0 hz1 hz2 h63 hby hlen
  go_enter Tryz.func16,Tryz.ntmps16
  go_wp2_with (at_builtin;refine wpList_append_own _ rfl _ _ 37 rfl w.heap.size 49 i0 _ 2 16 Tryz.underlying37 Hi.out.1 Hi.out.2.1 Hi.out.2.2.1 Hi.out.2.2.2 rfl (by omega) (.slice (some ⟨w.heap.size,0,none⟩) 0 0) 0 [] rfl Hw.out.1 ad 0 cap [] rfl Hw.out.2.2.2.2.2 Hw.out.2.1 Hw.out.2.2.1 Hw.out.2.2.2.1 Hw.out.2.2.2.2.1 (by simp) ?_;intro v1 w1 ho hg hn;have Ho:=Lib.hid ho;have Hg:=Lib.hid hg;have Hn:=Lib.hid hn;clear ho hg hn)
  go_ret
  exact⟨v1,rfl,by have:=Ho.out;simpa using this,((Below.refl _ _).alloc (Nat.le_refl _) _).grown Hg.out (by simp) (by simp[Value.ownBlock])⟩
theorem cloneN_C:∀(f:Bool),aR Tryz.prog 16 [.lst 2 f []] fun r=>r = .lst 2 false []:=fun f=>by
 have hO:kX Tryz.prog 16 [.lst 2 f []] fun e z ys=>e=49∧z=2∧ys=[]:=nR ⟨Tryz.f16,Tryz.func16,rfl,rfl⟩ (fun F w vals hsz hrel=>by
  obtain⟨u0,rfl⟩:∃u0,vals = #[u0]:=by
   obtain⟨l⟩:=vals
   match l,hsz with
   | [a],_=>exact⟨a,rfl⟩
  have r0:=hrel 0 _ u0 rfl rfl;cases r0
  refine(cloneE_C _ _ _).mono fun e' w' ⟨v,he,hown,hb⟩=>⟨v,he,hb,?_⟩
  obtain⟨_,⟨hv,_⟩ | ⟨g,c,cur,hv,hg,hc,hn,hm,hs,_⟩⟩:=hown
  ·exact .inl hv
  ·exact .inr ⟨g,c,cur,hv,hg,hc,hm,hs⟩)
 refine⟨hO.1,fun F w vals hZ hF hsz hrel=>((jD hO).2 F w vals hZ hF hsz hrel).mono fun e w' ⟨u,r,h1,h2,h3,h4,e',z,ys,h5,h6,h7,h8⟩=>?_⟩;subst h6;subst h7;subst h8;exact⟨u,r,h1,h2,h3,h4,h5⟩
theorem infoD_F:(Tryz.prog.info? 46).map (fun i=>(i.zero,i.size,i.bytes))=some (some (.agg #[.int .u32 0,.int .u32 0]),2,8):=by kernel_rfl
theorem cloneE_F(A:Option Addr)(cap:Nat)(w:World):
  Calls Tryz.prog 15 #[.slice A 0 cap] w fun e w'=>∃v,e = .returned v∧w'.ownsRow w.heap.size 46 2 v 0 []∧Below w.heap.size w w':=by
 have hnil:=fun W A n c=>Lib.run_eql_slice_nil (P:=Tryz.prog) W 33 46 A n c 0 0 Tryz.underlying33
 cases A with
 | none =>
  go_enter Tryz.func15,Tryz.ntmps15
  go_wp2
  go_ret
  exact⟨_,rfl,World.ownsRow_nil _ _ _ _,Below.refl _ _⟩
 | some ad =>
  obtain⟨i0,hi,hz0,hz1,hz2⟩:=info_parts infoD_F;have hown:(w.alloc (.cells #[] 46)).ownsRow w.heap.size 46 2 (.slice (some ⟨w.heap.size,0,none⟩) 0 0) 0 []:=World.ownsRow_lit w #[] 0 (Nat.le_refl _) (by simp[maxLen]) (by simp)
  have hnews:∀j u,([]:List Value)[j]?=some u→(w.alloc (.cells #[] 46)).cell? (ad.add j)=some u:=by
   intro j u hu;simp at hu
  have hone:∀u∈([]:List Value),u.oneCell'=true:=by intro u hu;cases hu
  have h63:0+0≤maxLen:=by simp[maxLen]
  have hby:(0+0)*8≤140737488355328:=by omega
  have hlen:([]:List Value).length=0*2:=by simp
  have Hi:=Lib.hid (show Tryz.prog.info? 46=some i0∧i0.zero=some _∧i0.size=2∧i0.bytes=8 from⟨hi,hz0,hz1,hz2⟩);have Hw:=Lib.hid (And.intro hown (And.intro hnews (And.intro hone (And.intro h63 (And.intro hby hlen)))));clear hnews hone hown hi hz0 hz1 hz2 h63 hby hlen
  go_enter Tryz.func15,Tryz.ntmps15
  go_wp2_with (at_builtin;refine wpList_append_own _ rfl _ _ 33 rfl w.heap.size 46 i0 _ 2 8 Tryz.underlying33 Hi.out.1 Hi.out.2.1 Hi.out.2.2.1 Hi.out.2.2.2 rfl (by omega) (.slice (some ⟨w.heap.size,0,none⟩) 0 0) 0 [] rfl Hw.out.1 ad 0 cap [] rfl Hw.out.2.2.2.2.2 Hw.out.2.1 Hw.out.2.2.1 Hw.out.2.2.2.1 Hw.out.2.2.2.2.1 (by simp) ?_;intro v1 w1 ho hg hn;have Ho:=Lib.hid ho;have Hg:=Lib.hid hg;have Hn:=Lib.hid hn;clear ho hg hn)
  go_ret
  exact⟨v1,rfl,by have:=Ho.out;simpa using this,((Below.refl _ _).alloc (Nat.le_refl _) _).grown Hg.out (by simp) (by simp[Value.ownBlock])⟩
theorem cloneN_F:∀(f:Bool),aR Tryz.prog 15 [.lst 2 f []] fun r=>r = .lst 2 false []:=fun f=>by
 have hO:kX Tryz.prog 15 [.lst 2 f []] fun e z ys=>e=46∧z=2∧ys=[]:=nR ⟨Tryz.f15,Tryz.func15,rfl,rfl⟩ (fun F w vals hsz hrel=>by
  obtain⟨u0,rfl⟩:∃u0,vals = #[u0]:=by
   obtain⟨l⟩:=vals
   match l,hsz with
   | [a],_=>exact⟨a,rfl⟩
  have r0:=hrel 0 _ u0 rfl rfl;cases r0
  refine(cloneE_F _ _ _).mono fun e' w' ⟨v,he,hown,hb⟩=>⟨v,he,hb,?_⟩
  obtain⟨_,⟨hv,_⟩ | ⟨g,c,cur,hv,hg,hc,hn,hm,hs,_⟩⟩:=hown
  ·exact .inl hv
  ·exact .inr ⟨g,c,cur,hv,hg,hc,hm,hs⟩)
 refine⟨hO.1,fun F w vals hZ hF hsz hrel=>((jD hO).2 F w vals hZ hF hsz hrel).mono fun e w' ⟨u,r,h1,h2,h3,h4,e',z,ys,h5,h6,h7,h8⟩=>?_⟩;subst h6;subst h7;subst h8;exact⟨u,r,h1,h2,h3,h4,h5⟩
theorem clone_F(l:List Fd)(f:Bool)(hl:l.length≤1000000):aR Tryz.prog 15 [LF f l] fun r=>r=LF false l:=by
 cases l with
 | nil=>exact cloneN_F f
 | cons x xs =>
  have hl':xs.length≤1000000:=by simp only[List.length_cons]at hl;omega
  refine aC (aD tok Tryz.func15 rfl rfl ?_);refine wx ?_;simp -implicitDefEqProofs -dsimp[Tryz.f15,List.replicate,LF,gT,cap8 xs.length (by omega),cT];exact dK rfl (by simp) (by simp)
section
theorem cap16b(n k:Nat)(h:n+k≤1000000000):n+k≤9223372036854775807∧(n+k)*16≤140737488355328:=by omega
theorem concat2(a b:List Cr)(f g:Bool)(ha:a.length≤1000000)(hb:b.length≤1000000)(hs:(a++b).length≤1000000):aR Tryz.prog 100 [.lst 1 true [LC f a,LC g b]] fun r=>r=LC false (a++b):=by
 have hab:a.length+b.length≤1000000:=by rw[List.length_append]at hs;exact hs
 have w11:IntKind.i64.wrap (1:Int)=1:=wrap64 (by omega) (by omega);have w12:IntKind.i64.wrap (2:Int)=2:=wrap64 (by omega) (by omega);refine aC (aD tok Tryz.func100 rfl rfl ?_);refine wx ?_;simp -implicitDefEqProofs -dsimp[Tryz.f100,List.replicate,LC];refine aK (W_loopM 23 [3,5,11,12,13,14,15,16,17,18,19,20,21,22] (by simp[mB]<;>rfl) (σ:=Nat×Nat) (fun p=>(p.1=0∧p.2=0)∨(p.1=1∧p.2=a.length)∨(p.1=2∧p.2=a.length+b.length)) (fun p=>2-p.1) (fun p=>[(11,.int .i64 p.1),(3,.int .i64 p.2)]) (fun _=>[]) (0,0) (.inl ⟨rfl,rfl⟩) (by simp) rfl (by simp) ?_);rintro⟨i,c⟩ hx N Q hN hQ;simp only at hx hN
 rcases hx with⟨rfl,rfl⟩ | ⟨rfl,rfl⟩ | ⟨rfl,rfl⟩
 ·have w1:IntKind.i64.wrap ((a.length:Int))=(a.length:Int):=iD _ (by omega);refine wx ?_;simp -implicitDefEqProofs -dsimp[w1];refine hN (1,a.length) _ _ (.inr (.inl ⟨rfl,rfl⟩)) (by simp) (by simp[w11,w12]) ⟨[],rfl⟩ (by simp) (by simp)
 ·have w1:IntKind.i64.wrap ((a.length:Int)+(b.length:Int))=((a.length+b.length:Nat):Int):=by rw[wrap64 (by omega) (by omega)];push_cast;rfl
  obtain⟨s,hse⟩:∃s,s=a.length+b.length:=⟨_,rfl⟩;rw[←hse]at w1;refine wx ?_;simp -implicitDefEqProofs -dsimp[w1,show ¬(s:Int)<0 by omega];refine hN (2,s) _ _ (.inr (.inr ⟨rfl,hse⟩)) (by simp) (by simp[w11,w12]) ⟨[],rfl⟩ (by simp) (by simp)
 ·obtain⟨s,hse⟩:∃s,s=a.length+b.length:=⟨_,rfl⟩;rw[←hse];have hg:=callO (H:=[]) (ku s (by omega)) (by simp);refine wx ?_;simp -implicitDefEqProofs -dsimp[];refine hQ _ _ _ ?_;simp -implicitDefEqProofs -dsimp[];refine hg.mono ?_;rintro r H' ⟨e,z,xs,rfl,rfl,_,rfl,rfl,rfl⟩;simp -implicitDefEqProofs -dsimp[];refine aK (W_loopM 35 [6,8,27,28,29,30,31,32,33,34] (by simp[mB]<;>rfl) (σ:=Nat×List Cr) (fun p=>(p.1=0∧p.2=[])∨(p.1=1∧p.2=a)∨(p.1=2∧p.2=a++b)) (fun p=>2-p.1) (fun p=>[(27,.int .i64 p.1),(6,.buf 0 0 p.2.length p.2.length)]) (fun p=>[B.buf 49 2 (p.2.map aN) false]) (0,[]) (.inl ⟨rfl,rfl⟩) (by simp) rfl (by simp) ?_);rintro⟨i,c⟩ hx N2 Q2 hN2 hQ2;simp only at hx hN2
  rcases hx with⟨rfl,rfl⟩ | ⟨rfl,rfl⟩ | ⟨rfl,rfl⟩
  ·by_cases h0:a=[]
   ·refine wx ?_;simp -implicitDefEqProofs -dsimp[h0,w11];refine hN2 (1,a) _ _ (.inr (.inl ⟨rfl,rfl⟩)) (by simp) (by simp[h0,w11]) ⟨[],by simp[h0]⟩ (by simp) (by simp)
   ·refine wx ?_;simp -implicitDefEqProofs -dsimp[h0,w11,show a.length≤9223372036854775807 by omega,show a.length*16≤140737488355328 by omega];refine hN2 (1,a) _ _ (.inr (.inl ⟨rfl,rfl⟩)) (by simp) (by simp[w11]) ⟨[],by simp⟩ (by simp) (by simp)
  ·by_cases h0:b=[]
   ·refine wx ?_;simp -implicitDefEqProofs -dsimp[h0,w12];refine hN2 (2,c++b) _ _ (.inr (.inr ⟨rfl,rfl⟩)) (by simp) (by simp[h0,w12]) ⟨[],by simp[h0]⟩ (by simp) (by simp)
   ·refine wx ?_;simp -implicitDefEqProofs -dsimp[h0,w12,cap16b c.length b.length (by omega)];refine hN2 (2,c++b) _ _ (.inr (.inr ⟨rfl,rfl⟩)) (by simp) (by simp[w12]) ⟨[],by simp⟩ (by simp) (by simp)
  ·refine wx ?_;simp -implicitDefEqProofs -dsimp[];refine hQ2 _ _ _ ?_;simp -implicitDefEqProofs -dsimp[];rw[show LC false (a++b)= .lst 2 false (a.map aN++b.map aN) by simp[LC]];refine dK rfl (by simp) ?_;simp only[List.mem_append,List.mem_map];rintro x (⟨c,_,rfl⟩ | ⟨c,_,rfl⟩)<;>exact encCr_pure c
theorem pS(l:List Cr):∀x∈l.map aN,AM.Pure x:=fun x hx=>by
 obtain⟨c,_,rfl⟩:=List.mem_map.1 hx;exact encCr_pure c
theorem jH(l:List Cr)(i:Nat):l.take i++l.drop (i+1)=l.eraseIdx i:=(List.eraseIdx_eq_take_drop_succ l i).symm
theorem less_u(l:List Cr)(i:Nat)(f:Bool)(hl:l.length≤1000000)(hi:i<l.length):aR Tryz.prog 82 [LC f l,.int .i64 i] fun r=>r=LC false (l.eraseIdx i):=by
 have c1:=concat2 (l.take i) (l.drop (i+1)) (f&&i == l.length) f (by simp;omega) (by simp;omega) (by simp;omega);rw[jH]at c1;simp only[LC,List.map_take,List.map_drop]at c1
 have hi1:i≤l.length:=by omega
 have hi2:i+1≤l.length:=by omega
 have htl:(List.map aN l).take l.length=List.map aN l:=by rw[←List.length_map (f:=aN)];exact List.take_length
 refine aC (aD tok Tryz.func82 rfl rfl ?_);refine wx ?_;simp -implicitDefEqProofs -dsimp[Tryz.f82,List.replicate,LC,hi1,hi2,htl,aJ i (by omega),show(0:Int)≤(i:Int)+1 by omega];refine .inr ⟨aI (by kernel_rfl),?_⟩
 refine ae _ (aF c1 (by
  simp
  exact⟨fun x hx=>pS l x (List.mem_of_mem_take hx),fun x hx=>pS l x (List.mem_of_mem_drop hx)⟩)) ?_
 simp -implicitDefEqProofs -dsimp[];rfl
open Classical in
noncomputable def fM(t:Tb)(fds:List Fd)(f:Bool)(l:List Cr)(i:Nat):Bool×List Cr :=
 if h:i<l.length then(if lX t fds (l.eraseIdx i)=true then fM t fds false (l.eraseIdx i) i else fM t fds f l (i+1)) else(f,l)
termination_by 2*l.length-i
decreasing_by
 ·rw[List.length_eraseIdx_of_lt h];omega
 ·omega
theorem coreG_ok{t:Tb}{fds:List Fd}{fixed:List Cr}(f:Bool)(l:List Cr)(i:Nat)(h:CoreSt t fds fixed l i):IsCoreP t fds (fM t fds f l i).2∧(∀c∈(fM t fds f l i).2,c∈fixed)∧aY (fM t fds f l i).2:=by
 fun_induction fM t fds f l i with
 | case1 f l i h1 h2 ih=>exact ih (h.drop h1 (cN.1 h2))
 | case2 f l i h1 h2 ih=>exact ih (h.keep h1 (fun hn=>h2 (cN.2 hn)))
 | case3 f l i h1 =>
  have:i=l.length:=by have:=h.le;omega
  subst this;exact⟨h.done,h.sub,h.sorted⟩
theorem core_u(t:Tb)(ff gg df cf:Bool)(fds:List Fd)(l0:List Cr)(hv:TbV t)(hF:bU fds)(hs:aY l0)(hl:l0.length≤1000000):
  aR Tryz.prog 49 [aG ff gg t,LF df fds,LC cf l0] fun r=>r=LC (fM t fds cf l0 0).1 (fM t fds cf l0 0).2:=by
 obtain⟨E,hE⟩:∃E,E=fM t fds cf l0 0:=⟨_,rfl⟩;rw[←hE];refine aC (aD tok Tryz.func49 rfl rfl ?_);refine wx ?_;simp -implicitDefEqProofs -dsimp[Tryz.f49,List.replicate,aG,LS,LR,LC,LF];refine aK (W_loopM 23 [2,7,8,9,10,11,12,13,14,15,16,17,18,19,20,21,22] (by simp[mB]<;>rfl) (σ:=Bool×List Cr×Nat) (fun p=>p.2.1.length≤1000000∧aY p.2.1∧fM t fds p.1 p.2.1 p.2.2=E∧p.2.2≤p.2.1.length) (fun p=>2*p.2.1.length-p.2.2) (fun p=>[(2,.lst 2 p.1 (p.2.1.map aN)),(7,.int .i64 p.2.2)]) (fun _=>[B.cells [.str t.name,.lst 1 ff (t.attrs.map V.str),.lst 2 gg (t.rows.map aL)]]) (cf,l0,0) ⟨hl,hs,hE.symm,by simp⟩ (by simp) (by simp) (by simp) ?_);rintro⟨f,l,i⟩ ⟨hl,hs,hx,hi⟩ N Q hN hQ;simp only at hl hs hx hi hN;by_cases hb:i<l.length
 ·have c1:=less_u l i f hl hb;have c2:=nh t ff gg df false fds (l.eraseIdx i) hv hF (ie hs) (by rw[List.length_eraseIdx_of_lt hb];omega);obtain⟨l',hl'⟩:∃l',l'=l.eraseIdx i:=⟨_,rfl⟩
  have hlen:l'.length=l.length-1:=by rw[hl',List.length_eraseIdx_of_lt hb]
  have hs':aY l':=hl'▸ie hs;rw[fM,dif_pos hb,←hl']at hx;rw[←hl']at c1 c2;simp only[aG,LS,LR,LC,LF]at c1 c2
  cases hq:lX t fds l' with
  | true =>
   rw[hq]at c2;rw[if_pos hq]at hx;refine wx ?_;simp -implicitDefEqProofs -dsimp[hb];refine(aF (c1) (by simp)).mono ?_;rintro r H' ⟨rfl,rfl⟩;simp -implicitDefEqProofs -dsimp[];refine(aF (c2) (by simp)).mono ?_;rintro r H' ⟨rfl,rfl⟩;simp -implicitDefEqProofs -dsimp[];refine hN (false,l',i) _ _ ⟨by simp only;omega,hs',hx,by simp only;omega⟩ (by simp only;omega) (by simp) ⟨[],by simp⟩ (by simp[encF_pure]) (by simp)
  | false =>
   rw[hq]at c2;rw[if_neg (by rw[hq];simp)]at hx;refine wx ?_;simp -implicitDefEqProofs -dsimp[hb];refine(aF (c1) (by simp)).mono ?_;rintro r H' ⟨rfl,rfl⟩;simp -implicitDefEqProofs -dsimp[];refine(aF (c2) (by simp)).mono ?_;rintro r H' ⟨rfl,rfl⟩;simp -implicitDefEqProofs -dsimp[aJ i (by omega)];refine hN (f,l,i+1) _ _ ⟨hl,hs,hx,by simp only;omega⟩ (by simp only;omega) (by simp) ⟨[],by simp⟩ (by simp) (by simp)
 ·rw[fM,dif_neg hb]at hx;subst hx;refine wx ?_;simp -implicitDefEqProofs -dsimp[hb];refine hQ _ _ _ ?_;simp -implicitDefEqProofs -dsimp[];rfl
end
end
end Go.Proofs.YteijbpppalhihaaGreat
namespace Go.Proofs.YteijbpppalhihaaGreat
section
open Go Go.AM
theorem sub_full(a n:Nat):decide (a &&& dn n=a)=decide (a<2^n):=by
 rw[Bool.eq_iff_iff,decide_eq_true_iff,decide_eq_true_iff];constructor
 ·intro h;rw[←h];exact Nat.lt_of_le_of_lt Nat.and_le_right (jd n)
 ·intro h
  refine Nat.eq_of_testBit_eq fun i=>?_
  rw[Nat.testBit_and,fullN_bit];by_cases hi:i<n
  ·simp[hi]
  ·have:a.testBit i=false:=Nat.testBit_lt_two_pow (Nat.lt_of_lt_of_le h (Nat.pow_le_pow_right (by omega) (by omega)));simp[this]
theorem valid09(n:Nat)(fds:List Fd)(f:Bool)(hn:n≤16)(hF:bU fds):aR Tryz.prog 85 [.int .i64 n,LF f fds] fun r=>r = .int .i64 (cG n fds):=by
 obtain⟨hF1,hF2⟩:=hF
 have hn1:¬(16:Int)<n:=by omega
 have hn0:¬(n:Int)<0:=by omega
 have hfl:=lr n (by omega);unfold cG;by_cases h64:64<fds.length
 ·rw[if_pos h64];refine aC (aD tok Tryz.func85 rfl rfl ?_);refine wx ?_;simp -implicitDefEqProofs -dsimp[Tryz.f85,List.replicate,LF,hn0,hn1,show(64:Int)<fds.length by omega]
 ·rw[if_neg h64]
  obtain⟨E,hE⟩:∃E:Int,E=if fds.all (mG n) then 0 else 1:=⟨_,rfl⟩
  rw[←hE];have cf:=full02 n (by omega);refine aC (aD tok Tryz.func85 rfl rfl ?_);refine wx ?_;simp -implicitDefEqProofs -dsimp[Tryz.f85,List.replicate,LF,hn0,hn1,show ¬(64:Int)<fds.length by omega];refine(aF (cf) (by simp)).mono ?_;rintro r H' ⟨rfl,rfl⟩;simp -implicitDefEqProofs -dsimp[];refine aK (W_loopM 42 [4,6,18,19,20,21,22,23,24,25,26,27,28,29,30,31,32,33,34,35,36,37,38,39,40,41] (by simp[mB]<;>rfl) (σ:=Nat) (fun i=>i≤fds.length∧(if(fds.drop i).all (mG n) then(0:Int) else 1)=E) (fun i=>fds.length-i) (fun i=>[(6,.int .i64 i)]) (fun _=>[]) 0 ⟨by omega,by rw[hE,List.drop_zero]⟩ (by simp) rfl (by simp) ?_);rintro i ⟨hi,hx⟩ N Q hN hQ;by_cases hb:i<fds.length
  ·rw[List.drop_eq_getElem_cons hb,List.all_cons]at hx;obtain⟨h1,h2⟩:=hF2 fds[i] (List.getElem_mem hb);have d1:=sub02 fds[i].l (dn n) h1 hfl;have d2:=sub02 fds[i].r (dn n) h2 hfl;rw[sub_full]at d1 d2
   cases q1:decide (fds[i].l<2^n) with
   | false =>
    rw[q1]at d1;rw[show mG n fds[i]=false by unfold mG;rw[q1];rfl,Bool.false_and,if_neg (by simp)]at hx;refine wx ?_;simp -implicitDefEqProofs -dsimp[hb,cT];refine(aF (d1) (by simp)).mono ?_;rintro r H' ⟨rfl,rfl⟩;simp -implicitDefEqProofs -dsimp[];refine hQ _ _ _ ?_;simp -implicitDefEqProofs -dsimp[];exact hx
   | true =>
    rw[q1]at d1
    cases q2:decide (fds[i].r<2^n) with
    | false =>
     rw[q2]at d2;rw[show mG n fds[i]=false by unfold mG;rw[q1,q2];rfl,Bool.false_and,if_neg (by simp)]at hx;refine wx ?_;simp -implicitDefEqProofs -dsimp[hb,cT];refine(aF (d1) (by simp)).mono ?_;rintro r H' ⟨rfl,rfl⟩;simp -implicitDefEqProofs -dsimp[hb,cT];refine(aF (d2) (by simp)).mono ?_;rintro r H' ⟨rfl,rfl⟩;simp -implicitDefEqProofs -dsimp[];refine hQ _ _ _ ?_;simp -implicitDefEqProofs -dsimp[];exact hx
    | true =>
     rw[q2]at d2;rw[show mG n fds[i]=true by unfold mG;rw[q1,q2];rfl,Bool.true_and]at hx;refine wx ?_;simp -implicitDefEqProofs -dsimp[hb,cT];refine(aF (d1) (by simp)).mono ?_;rintro r H' ⟨rfl,rfl⟩;simp -implicitDefEqProofs -dsimp[hb,cT];refine(aF (d2) (by simp)).mono ?_;rintro r H' ⟨rfl,rfl⟩;simp -implicitDefEqProofs -dsimp[aJ i (by omega)];refine hN (i+1) _ _ ⟨by omega,hx⟩ (by omega) ?_ ⟨[],?_⟩ ?_ ?_<;>simp[or_imp,forall_and,L1,aW,LF]
  ·rw[List.drop_of_length_le (by omega)]at hx;refine wx ?_;simp -implicitDefEqProofs -dsimp[hb];refine hQ _ _ _ ?_;simp -implicitDefEqProofs -dsimp[];simpa using hx
def ltC(a b:Cr):Bool:=decide (a.id<b.id∨(a.id=b.id∧a.attr<b.attr))
theorem ltC_iff{a b:Cr} : ltC a b=true↔cLt a b:=by unfold ltC cLt;simp
theorem before_r(a b:Cr):aR Tryz.prog 83 [aN a,aN b] fun r=>r = .bool (ltC a b):=by
 unfold ltC;by_cases h1:a.id<b.id
 ·rw[decide_eq_true (.inl h1)];refine aC (aD tok Tryz.func83 rfl rfl ?_);refine wx ?_;simp -implicitDefEqProofs -dsimp[Tryz.f83,List.replicate,aN,h1]
 ·by_cases h2:a.id=b.id
  ·by_cases h3:a.attr<b.attr
   ·rw[decide_eq_true (.inr ⟨h2,h3⟩)];refine aC (aD tok Tryz.func83 rfl rfl ?_);refine wx ?_;simp -implicitDefEqProofs -dsimp[Tryz.f83,List.replicate,aN,h1,h2,h3]
   ·rw[decide_eq_false (by omega)];refine aC (aD tok Tryz.func83 rfl rfl ?_);refine wx ?_;simp -implicitDefEqProofs -dsimp[Tryz.f83,List.replicate,aN,h1,h2,h3]
  ·rw[decide_eq_false (by omega)];refine aC (aD tok Tryz.func83 rfl rfl ?_);refine wx ?_;simp -implicitDefEqProofs -dsimp[Tryz.f83,List.replicate,aN,h1,h2]
noncomputable def jq(t:Tb)(fds:List Fd):Int:=open Classical in if validT t≠0 then validT t else if cG t.attrs.length fds≠0 then cG t.attrs.length fds else if 60<t.rows.length*t.attrs.length then 3 else 0
noncomputable def pi(t:Tb)(cells:List Cr):Int:=open Classical in if ¬aY cells then 1 else if cells.all (dq t) then 0 else 4
theorem chkE_eq(t:Tb)(fds:List Fd)(cells:List Cr):dO t fds cells=if jq t fds=0 then pi t cells else jq t fds:=by
 unfold dO jq pi;by_cases h1:validT t=0
 ·rw[if_neg (show ¬validT t≠0 by simp[h1]),if_neg (show ¬validT t≠0 by simp[h1])];by_cases h2:cG t.attrs.length fds=0
  ·rw[if_neg (show ¬cG t.attrs.length fds≠0 by simp[h2]),if_neg (show ¬cG t.attrs.length fds≠0 by simp[h2])];by_cases h3:60<t.rows.length*t.attrs.length
   ·rw[if_pos h3,if_pos h3,if_neg (by omega)]
   ·rw[if_neg h3,if_neg h3,if_pos rfl]
  ·rw[if_pos h2,if_pos h2,if_neg h2]
 ·rw[if_pos h1,if_pos h1,if_neg h1]
theorem chkE_nil(t:Tb)(fds:List Fd):dO t fds []=jq t fds:=by
 rw[chkE_eq];split
 ·rename_i h;rw[h];unfold pi;rw[if_neg (by simp[aY]),if_pos (by simp)]
 ·rfl
theorem base_r(t:Tb)(ff gg df:Bool)(fds:List Fd)(ht:TbOk t)(hF:bU fds):aR Tryz.prog 37 [aG ff gg t,LF df fds] fun r=>r = .int .i64 (jq t fds):=by
 have c1:=valid03 t ff gg ht;simp only[aG,LS,LR]at c1;unfold jq;by_cases h1:validT t=0
 ·have hv:=jS ht h1;rw[h1]at c1;rw[if_neg (show ¬validT t≠0 by simp[h1])];have c2:=valid09 t.attrs.length fds df hv.attrs hF;by_cases h2:cG t.attrs.length fds=0
  ·rw[h2]at c2;rw[if_neg (show ¬cG t.attrs.length fds≠0 by simp[h2])];have hmn:=Nat.mul_le_mul hv.rows hv.attrs
   have hw:IntKind.i64.wrap ((t.rows.length:Int)*(t.attrs.length:Int))=((t.rows.length*t.attrs.length:Nat):Int):=by rw[wrap64 (by rw[←Int.natCast_mul];omega) (by rw[←Int.natCast_mul];omega)];push_cast;rfl
   obtain⟨mn,hmn'⟩:∃mn,mn=t.rows.length*t.attrs.length:=⟨_,rfl⟩;rw[←hmn']at hw ⊢;by_cases h3:60<mn
   ·rw[if_pos h3];refine aC (aD tok Tryz.func37 rfl rfl ?_);refine wx ?_;simp -implicitDefEqProofs -dsimp[Tryz.f37,List.replicate,aG,LS,LR];refine(aF (c1) (by simp)).mono ?_;rintro r H' ⟨rfl,rfl⟩;simp -implicitDefEqProofs -dsimp[];refine(aF (c2) (by simp)).mono ?_;rintro r H' ⟨rfl,rfl⟩;simp -implicitDefEqProofs -dsimp[hw,show(60:Int)<mn by omega]
   ·rw[if_neg h3];refine aC (aD tok Tryz.func37 rfl rfl ?_);refine wx ?_;simp -implicitDefEqProofs -dsimp[Tryz.f37,List.replicate,aG,LS,LR];refine(aF (c1) (by simp)).mono ?_;rintro r H' ⟨rfl,rfl⟩;simp -implicitDefEqProofs -dsimp[];refine(aF (c2) (by simp)).mono ?_;rintro r H' ⟨rfl,rfl⟩;simp -implicitDefEqProofs -dsimp[hw,show ¬(60:Int)<mn by omega]
  ·rw[if_pos h2];refine aC (aD tok Tryz.func37 rfl rfl ?_);refine wx ?_;simp -implicitDefEqProofs -dsimp[Tryz.f37,List.replicate,aG,LS,LR];refine(aF (c1) (by simp)).mono ?_;rintro r H' ⟨rfl,rfl⟩;simp -implicitDefEqProofs -dsimp[];refine(aF (c2) (by simp)).mono ?_;rintro r H' ⟨rfl,rfl⟩;simp -implicitDefEqProofs -dsimp[h2]
 ·rw[if_pos h1];refine aC (aD tok Tryz.func37 rfl rfl ?_);refine wx ?_;simp -implicitDefEqProofs -dsimp[Tryz.f37,List.replicate,aG,LS,LR];refine(aF (c1) (by simp)).mono ?_;rintro r H' ⟨rfl,rfl⟩;simp -implicitDefEqProofs -dsimp[h1]
theorem error_r(t:Tb)(ff gg df cf:Bool)(fds:List Fd)(l:List Cr)(ht:TbOk t)(hF:bU fds)(hl:l.length≤1000000):aR Tryz.prog 36 [aG ff gg t,LF df fds,LC cf l] fun r=>r = .int .i64 (dO t fds l):=by
 have c1:=base_r t ff gg df fds ht hF;simp only[aG,LS,LR]at c1;rw[chkE_eq];by_cases h0:jq t fds=0
 ·rw[if_pos h0];rw[h0]at c1
  have hv:TbV t:=jS ht (by
   unfold jq at h0;by_cases h1:validT t=0
   ·exact h1
   ·rw[if_pos h1]at h0;exact h0)
  obtain⟨E,hE⟩:∃E,E=pi t l:=⟨_,rfl⟩;rw[←hE];refine aC (aD tok Tryz.func36 rfl rfl ?_);refine wx ?_;simp -implicitDefEqProofs -dsimp[Tryz.f36,List.replicate,aG,LS,LR,LC];refine(aF (c1) (by simp)).mono ?_;rintro r H' ⟨rfl,rfl⟩;simp -implicitDefEqProofs -dsimp[];refine aK (W_loopM 34 [6,8,17,18,19,20,21,22,23,24,25,26,27,28,29,30,31,32,33] (by simp[mB]<;>rfl) (σ:=Nat) (fun i=>1≤i∧∀j (h:j+1<l.length),j+1<i→cLt l[j] l[j+1]) (fun i=>l.length-i) (fun i=>[(8,.int .i64 i)]) (fun _=>[B.cells [.str t.name,.lst 1 ff (t.attrs.map V.str),.lst 2 gg (t.rows.map aL)]]) 1 ⟨by omega,fun j _ h=>by omega⟩ (by simp) (by simp) (by simp) ?_);rintro i ⟨hi,hx⟩ N Q hN hQ;by_cases hb:i<l.length
  ·obtain⟨k,hki⟩:∃k,i=k+1:=⟨i-1,by omega⟩
   have hk:k<l.length:=by omega
   have hc:=before_r l[k] l[i]
   have hw:IntKind.i64.wrap ((i:Int)-1)=(k:Int):=by rw[wrapP i (by omega) hi];omega
   simp only[aN]at hc
   cases hq:ltC l[k] l[i] with
   | true =>
    rw[hq]at hc;have hlt:=ltC_iff.1 hq;refine wx ?_;simp -implicitDefEqProofs -dsimp[hb,hw,hk,aN];refine .inr ⟨aI (by kernel_rfl),?_⟩;refine ae _ (aF (hc) (by simp)) ?_;simp -implicitDefEqProofs -dsimp[aJ i (by omega)];refine hN (i+1) _ _ ⟨by omega,fun j h hj=>?_⟩ (by omega) (by simp) ⟨[],by simp⟩ (by simp[LF]) (by simp)
    rcases Nat.lt_or_ge j k with h1 | h1
    ·exact hx j h (by omega)
    ·have:j=k:=by omega
     subst this;subst hki;exact hlt
   | false =>
    rw[hq]at hc
    have hno:¬aY l:=fun hs=>by
     subst hki;have:=dy hs hk hb (by omega);rw[ltC_iff.2 this]at hq;cases hq
    have hE1:(1:Int)=E:=by rw[hE];unfold pi;rw[if_pos hno]
    refine wx ?_;simp -implicitDefEqProofs -dsimp[hb,hw,hk,aN];refine .inr ⟨aI (by kernel_rfl),?_⟩;refine ae _ (aF (hc) (by simp)) ?_;simp -implicitDefEqProofs -dsimp[];refine hQ _ _ _ ?_;simp -implicitDefEqProofs -dsimp[];exact hE1
  ·have hs:aY l:=jI fun j h=>hx j h (by omega)
   have hE3:pi t l=if l.all (dq t) then(0:Int) else 4:=by unfold pi;rw[if_neg (by simp[hs])]
   have hE2:(if l.all (dq t) then(0:Int) else 4)=E:=by rw[hE,hE3]
   have c2:=ol t ff gg hv.rows (by have:=hv.attrs;omega);simp only[aG,LS,LR,LC]at c2
   have hcl:(ak t).length≤1000000:=by rw[gO];exact ec hv
   refine wx ?_;simp -implicitDefEqProofs -dsimp[hb];refine hQ _ _ _ ?_;simp -implicitDefEqProofs -dsimp[];refine(aF (c2) (by simp)).mono ?_;rintro r H' ⟨rfl,rfl⟩;simp -implicitDefEqProofs -dsimp[];refine aK (W_loopM 49 [6,10,36,37,38,39,40,41,42,43,44,45,46,47,48] (by simp[mB]<;>rfl) (σ:=Nat) (fun i=>i≤l.length∧(if(l.drop i).all (dq t) then(0:Int) else 4)=E) (fun i=>l.length-i) (fun i=>[(10,.int .i64 i)]) (fun _=>[B.cells [.str t.name,.lst 1 ff (t.attrs.map V.str),.lst 2 gg (t.rows.map aL)]]) 0 ⟨by omega,by rw[List.drop_zero];exact hE2⟩ (by simp) (by simp) (by simp) ?_);rintro i ⟨hi,hx⟩ N Q hN hQ;by_cases hb:i<l.length
   ·rw[List.drop_eq_getElem_cons hb,List.all_cons]at hx;obtain⟨c,hc⟩:∃c,c=l[i]:=⟨_,rfl⟩;rw[←hc]at hx;have hc':=hc.symm;have c3:=nn (ak t) c false hcl;simp only[LC,aN]at c3
    have he:eA (ak t) c=dq t c:=by rw[Bool.eq_iff_iff,bW,qX hv]
    rw[he]at c3
    cases hq:dq t c with
    | true =>
     rw[hq]at c3;rw[hq,Bool.true_and]at hx;refine wx ?_;simp -implicitDefEqProofs -dsimp[hb,hc',aN];refine(aF (c3) (by simp)).mono ?_;rintro r H' ⟨rfl,rfl⟩;simp -implicitDefEqProofs -dsimp[aJ i (by omega)];refine hN (i+1) _ _ ⟨by omega,hx⟩ (by omega) (by simp) ⟨[],by simp⟩ (by simp[LF]) (by simp)
    | false =>
     rw[hq]at c3;rw[hq,Bool.false_and,if_neg (by simp)]at hx;refine wx ?_;simp -implicitDefEqProofs -dsimp[hb,hc',aN];refine(aF (c3) (by simp)).mono ?_;rintro r H' ⟨rfl,rfl⟩;simp -implicitDefEqProofs -dsimp[];refine hQ _ _ _ ?_;simp -implicitDefEqProofs -dsimp[];exact hx
   ·rw[List.drop_of_length_le (by omega)]at hx;refine wx ?_;simp -implicitDefEqProofs -dsimp[hb];refine hQ _ _ _ ?_;simp -implicitDefEqProofs -dsimp[];simpa using hx
 ·rw[if_neg h0];refine aC (aD tok Tryz.func36 rfl rfl ?_);refine wx ?_;simp -implicitDefEqProofs -dsimp[Tryz.f36,List.replicate,aG,LS,LR,LC];refine(aF (c1) (by simp)).mono ?_;rintro r H' ⟨rfl,rfl⟩;simp -implicitDefEqProofs -dsimp[h0]
theorem check_nil(t:Tb)(ff gg df:Bool)(fds:List Fd)(ht:TbOk t)(hF:bU fds):aR Tryz.prog 43 [aG ff gg t,LF df fds,.nilS] fun r=>r = .int .i64 (jq t fds):=by
 have c1:=oh t ff gg df false fds [] ht hF (by simp);rw[chkE_nil]at c1;refine nQ c1 rfl (fun i a b ha hb=>?_)
 match i with
 | 0=>simp at ha hb;subst ha;subst hb;exact .refl _
 | 1=>simp at ha hb;subst ha;subst hb;exact .refl _
 | 2=>simp at ha hb;subst ha;subst hb;exact .nil _ _
 | k+3=>simp at ha
def au:List Cr→List Cr→Int
 | [],[]=>0
 | [],_::_=>-1
 | _::_,[]=>1
 | x::a,y::b=>if bp x y=0 then au a b else bp x y
theorem cmpLs_eq:∀a b,au a b=0↔a=b
 | [],[]=>by simp[au]
 | [],_::_=>by simp[au]
 | _::_,[]=>by simp[au]
 | x::a,y::b=>by
  rw[au];by_cases h:bp x y=0
  ·rw[if_pos h,cmpLs_eq a b,(fU x y).1 h];simp
  ·rw[if_neg h];exact⟨fun h2=>absurd h2 h,fun h2=>by cases h2;exact absurd ((fU x x).2 rfl) h⟩
def lZ:List Cr→List Cr→Bool
 | [],[]=>false
 | [],_::_=>true
 | _::_,[]=>false
 | x::a,y::b=>if bp x y=0 then lZ a b else ltC x y
theorem ltLs_cmp(hlt:∀x y,ltC x y=decide (bp x y<0)):∀a b,lZ a b=decide (au a b<0)
 | [],[]=>by simp[au,lZ]
 | [],_::_=>by simp[au,lZ]
 | _::_,[]=>by simp[au,lZ]
 | x::a,y::b=>by
  rw[au,lZ];by_cases h:bp x y=0
  ·rw[if_pos h,if_pos h,ltLs_cmp hlt a b]
  ·rw[if_neg h,if_neg h,hlt]
theorem cmpFunc_u(a b:List Cr)(fa fb:Bool)(ha:a.length≤1000000)(hb:b.length≤1000000):aR Tryz.prog 111 [LC fa a,LC fb b,.fn 75 []] fun r=>r = .int .i64 (au a b):=by
 obtain⟨E,hE⟩:∃E,E=au a b:=⟨_,rfl⟩;rw[←hE];refine aC (aD tok Tryz.func111 rfl rfl ?_);refine wx ?_;simp -implicitDefEqProofs -dsimp[Tryz.f111,List.replicate,LC];refine aK (W_loopM 34 [6,7,8,9,10,13,14,15,16,17,18,19,20,21,22,23,24,25,26,27,28,29,30,31,32,33] (by simp[mB]<;>rfl) (σ:=Nat) (fun i=>i≤a.length∧i≤b.length∧au (a.drop i) (b.drop i)=E) (fun i=>a.length-i) (fun i=>[(13,.int .i64 i)]) (fun _=>[]) 0 ⟨by omega,by omega,by rw[List.drop_zero,List.drop_zero];exact hE.symm⟩ (by simp) rfl (by simp) ?_);rintro i ⟨hi,hi2,hx⟩ N Q hN hQ;by_cases h1:i<a.length
 ·by_cases h2:i<b.length
  ·rw[List.drop_eq_getElem_cons h1,List.drop_eq_getElem_cons h2,au]at hx;obtain⟨x,hxe⟩:∃x,x=a[i]:=⟨_,rfl⟩;obtain⟨y,hye⟩:∃y,y=b[i]:=⟨_,rfl⟩;rw[←hxe,←hye]at hx;have hc:=kL x y;simp only[aN]at hc;obtain⟨z,hz⟩:∃z,z=bp x y:=⟨_,rfl⟩;rw[←hz]at hc hx;by_cases hq:z=0
   ·rw[if_pos hq]at hx;refine wx ?_;simp -implicitDefEqProofs -dsimp[h1,h2,hxe.symm,hye.symm,aN,show ¬(b.length:Int)≤i by omega,show ¬b.length≤i by omega,LC];refine(aF (hc) (by simp)).mono ?_;rintro r H' ⟨rfl,rfl⟩;simp -implicitDefEqProofs -dsimp[hq,aJ i (by omega),LC];refine hN (i+1) _ _ ⟨by omega,by omega,hx⟩ (by omega) (by simp) ⟨_,rfl⟩ (by simp) (by simp)
   ·rw[if_neg hq]at hx;refine wx ?_;simp -implicitDefEqProofs -dsimp[h1,h2,hxe.symm,hye.symm,aN,show ¬(b.length:Int)≤i by omega,show ¬b.length≤i by omega,LC];refine(aF (hc) (by simp)).mono ?_;rintro r H' ⟨rfl,rfl⟩;simp -implicitDefEqProofs -dsimp[hq,LC];refine hQ _ _ _ ?_;simp -implicitDefEqProofs -dsimp[LC];exact hx
  ·rw[List.drop_eq_getElem_cons h1,List.drop_of_length_le (show b.length≤i by omega),au]at hx;refine wx ?_;simp -implicitDefEqProofs -dsimp[h1,show(b.length:Int)≤i by omega,show b.length≤i by omega,aN,LC];refine hQ _ _ _ ?_;simp -implicitDefEqProofs -dsimp[LC];exact hx
 ·rw[List.drop_of_length_le (show a.length≤i by omega)]at hx;by_cases h2:i<b.length
  ·rw[List.drop_eq_getElem_cons h2,au]at hx;refine wx ?_;simp -implicitDefEqProofs -dsimp[h1,LC];refine hQ _ _ _ ?_;simp -implicitDefEqProofs -dsimp[show(a.length:Int)<b.length by omega,show a.length<b.length by omega,LC];exact hx
  ·rw[List.drop_of_length_le (show b.length≤i by omega),au]at hx;refine wx ?_;simp -implicitDefEqProofs -dsimp[h1,LC];refine hQ _ _ _ ?_;simp -implicitDefEqProofs -dsimp[show ¬(a.length:Int)<b.length by omega,show ¬a.length<b.length by omega,LC];exact hx
theorem lists_u(a b:List Cr)(fa fb:Bool)(ha:a.length≤1000000)(hb:b.length≤1000000):aR Tryz.prog 68 [LC fa a,LC fb b] fun r=>r = .int .i64 (au a b):=by
 have hc:=cmpFunc_u a b fa fb ha hb;refine aC (aD tok Tryz.func68 rfl rfl ?_);refine wx ?_;simp -implicitDefEqProofs -dsimp[Tryz.f68,List.replicate];refine(aF (hc) (by simp)).mono ?_;rintro r H' ⟨rfl,rfl⟩;simp -implicitDefEqProofs -dsimp[]
theorem lessCells_r(a b:List Cr)(fa fb:Bool)(ha:a.length≤1000000)(hb:b.length≤1000000):aR Tryz.prog 70 [LC fa a,LC fb b] fun r=>r = .bool (lZ a b):=by
 obtain⟨E,hE⟩:∃E,E=lZ a b:=⟨_,rfl⟩;rw[←hE];refine aC (aD tok Tryz.func70 rfl rfl ?_);refine wx ?_;simp -implicitDefEqProofs -dsimp[Tryz.f70,List.replicate,LC];refine aK (W_loopM 36 [4,5,6,7,8,9,10,11,12,13,14,15,16,17,18,19,20,21,22,23,24,25,26,27,28,29,30,31,32,33,34,35] (by simp[mB]<;>rfl) (σ:=Nat) (fun i=>i≤a.length∧i≤b.length∧lZ (a.drop i) (b.drop i)=E) (fun i=>a.length-i) (fun i=>[(5,.int .i64 i)]) (fun _=>[]) 0 ⟨by omega,by omega,by rw[List.drop_zero,List.drop_zero];exact hE.symm⟩ (by simp) rfl (by simp) ?_);rintro i ⟨hi,hi2,hx⟩ N Q hN hQ;by_cases h1:i<a.length
 ·by_cases h2:i<b.length
  ·rw[List.drop_eq_getElem_cons h1,List.drop_eq_getElem_cons h2,lZ]at hx;obtain⟨x,hxe⟩:∃x,x=a[i]:=⟨_,rfl⟩;obtain⟨y,hye⟩:∃y,y=b[i]:=⟨_,rfl⟩;rw[←hxe,←hye]at hx;have hc:=before_r x y;simp only[aN]at hc;by_cases hq0:bp x y=0
   ·rw[if_pos hq0]at hx;have hq:=(fU x y).1 hq0
    have hq2:(x.id == y.id&&x.attr == y.attr)=true:=by subst hq;simp
    refine wx ?_;simp -implicitDefEqProofs -dsimp[h1,h2,hxe.symm,hye.symm,aN,eqCr,hq2,LC];refine .inr ⟨aI (by kernel_rfl),?_⟩;simp -implicitDefEqProofs -dsimp[aJ i (by omega),LC];refine hN (i+1) _ _ ⟨by omega,by omega,hx⟩ (by omega) (by simp) ⟨[],rfl⟩ (by simp) (by simp)
   ·rw[if_neg hq0]at hx
    have hq:¬x=y:=fun h=>hq0 ((fU x y).2 h)
    have hq2:(x.id == y.id&&x.attr == y.attr)=false:=by
     cases h:(x.id == y.id&&x.attr == y.attr)
     ·rfl
     ·rw[Bool.and_eq_true,beq_iff_eq,beq_iff_eq]at h;exact absurd (Cr.eq_iff.2 h) hq
    refine wx ?_;simp -implicitDefEqProofs -dsimp[h1,h2,hxe.symm,hye.symm,aN,eqCr,hq2,LC];refine .inr ⟨aI (by kernel_rfl),?_⟩;refine .inr ⟨aI (by kernel_rfl),?_⟩;refine ae _ (aF (hc) (by simp)) ?_;simp -implicitDefEqProofs -dsimp[LC];refine hQ _ _ _ ?_;simp -implicitDefEqProofs -dsimp[LC];exact hx
  ·rw[List.drop_eq_getElem_cons h1,List.drop_of_length_le (show b.length≤i by omega),lZ]at hx;refine wx ?_;simp -implicitDefEqProofs -dsimp[h1,h2,LC];refine hQ _ _ _ ?_;simp -implicitDefEqProofs -dsimp[show ¬(a.length:Int)<b.length by omega,show ¬a.length<b.length by omega,LC];exact hx.symm
 ·rw[List.drop_of_length_le (show a.length≤i by omega)]at hx;by_cases h2:i<b.length
  ·rw[List.drop_eq_getElem_cons h2,lZ]at hx;refine wx ?_;simp -implicitDefEqProofs -dsimp[h1,LC];refine hQ _ _ _ ?_;simp -implicitDefEqProofs -dsimp[show(a.length:Int)<b.length by omega,show a.length<b.length by omega,LC];exact hx.symm
  ·rw[List.drop_of_length_le (show b.length≤i by omega),lZ]at hx;refine wx ?_;simp -implicitDefEqProofs -dsimp[h1,LC];refine hQ _ _ _ ?_;simp -implicitDefEqProofs -dsimp[show ¬(a.length:Int)<b.length by omega,show ¬a.length<b.length by omega,LC];exact hx.symm
theorem qQ(a b:Cr):bp a b<0∨a=b∨bp b a<0:=by
 rw[eR,eR];exact cLt_tri a b
theorem jE{a b c:Cr}(h:bp a b<0)(g:bp b c<0):bp a c<0:=by
 rw[eR]at *;exact ek h g
theorem cmpC_irr(a:Cr):¬bp a a<0:=by rw[eR];exact ez a
theorem ny{a b c:Cr}(h:¬bp a b<0)(g:¬bp b c<0):¬bp a c<0:=by
 intro hac
 rcases qQ a b with h1 | h1 | h1
 ·exact h h1
 ·subst h1;exact g hac
 ·exact g (jE h1 hac)
theorem nU(a:List Cr):¬au a a<0:=by rw[(cmpLs_eq a a).2 rfl];omega
theorem lE(x y:Cr)(a b:List Cr):au (x::a) (y::b)<0↔bp x y<0∨(x=y∧au a b<0):=by
 rw[au];by_cases h:bp x y=0
 ·rw[if_pos h];have:=(fU x y).1 h;constructor
  ·intro h2;exact .inr ⟨this,h2⟩
  ·rintro(h2 | ⟨_,h2⟩)
   ·omega
   ·exact h2
 ·rw[if_neg h];constructor
  ·intro h2;exact .inl h2
  ·rintro(h2 | ⟨h2,_⟩)
   ·exact h2
   ·exact absurd ((fU x y).2 h2) h
theorem kM:∀a b:List Cr,au a b<0∨a=b∨au b a<0
 | [],[]=>.inr (.inl rfl)
 | [],_::_=>.inl (by rw[au];omega)
 | _::_,[]=>.inr (.inr (by rw[au];omega))
 | x::a,y::b=>by
  rw[lE,lE]
  rcases qQ x y with h | h | h
  ·exact .inl (.inl h)
  ·subst h
   rcases kM a b with h2 | h2 | h2
   ·exact .inl (.inr ⟨rfl,h2⟩)
   ·subst h2;exact .inr (.inl rfl)
   ·exact .inr (.inr (.inr ⟨rfl,h2⟩))
  ·exact .inr (.inr (.inl h))
theorem gh:∀a b c:List Cr,au a b<0→au b c<0→au a c<0
 | [],[],_,h,_=>by rw[au]at h;omega
 | _::_,[],_,h,_=>by rw[au]at h;omega
 | _,_::_,[],_,g=>by rw[au]at g;omega
 | [],_::_,_::_,_,_=>by rw[au];omega
 | x::a,y::b,z::c,h,g=>by
  rw[lE]at *
  rcases h with h | ⟨rfl,h⟩
  ·rcases g with g | ⟨rfl,g⟩
   ·exact .inl (jE h g)
   ·exact .inl h
  ·rcases g with g | ⟨rfl,g⟩
   ·exact .inl g
   ·exact .inr ⟨rfl,gh a b c h g⟩
theorem mY{a b c:List Cr}(h:¬au a b<0)(g:¬au b c<0):¬au a c<0:=by
 intro hac
 rcases kM a b with h1 | h1 | h1
 ·exact h h1
 ·subst h1;exact g hac
 ·exact g (gh _ _ _ h1 hac)
theorem ltLs_eq(a b:List Cr):lZ a b=decide (au a b<0):=ltLs_cmp (fun x y=>by
 unfold ltC;by_cases h:bp x y<0
 ·rw[decide_eq_true h];exact decide_eq_true ((eR x y).1 h)
 ·rw[decide_eq_false h]
  exact decide_eq_false (fun h2=>h ((eR x y).2 h2))) a b
end
end Go.Proofs.YteijbpppalhihaaGreat
namespace Go.Proofs.YteijbpppalhihaaGreat
section
open Go Go.Shelf
def renC:Go.Shelf.Ren:=⟨fun n=>match n with
  | 6=>101
  | 14=>138
  | 15=>110
  | 20=>175
  | 21=>176
  | 22=>177
  | 23=>178
  | 24=>179
  | 25=>180
  | 26=>181
  | 27=>182
  | 28=>158
  | 29=>159
  | 46=>200
  | 47=>193
  | 48=>194
  | 49=>201
  | 50=>202
  | 57=>217
  | n=>n,fun n=>match n with
  | 0=>0
  | 3=>3
  | 4=>4
  | 5=>5
  | 9=>9
  | 22=>37
  | 24=>49
  | 25=>143
  | 39=>186
  | 45=>222
  | 46=>223
  | 50=>141
  | 53=>43
  | 55=>230
  | 66=>251
  | 70=>255
  | 76=>269
  | 77=>270
  | n=>n,fun n=>n⟩
theorem layC:Go.Proofs.SlLaysF0.n6 Tryz.prog renC:={
 mixed:=by kernel_rfl
 f6:=⟨Tryz.f101.name,by decide,Tryz.func101.trans (congrArg some (by kernel_rfl))⟩
 f14:=⟨Tryz.f138.name,by decide,Tryz.func138.trans (congrArg some (by kernel_rfl))⟩
 f15:=Tryz.func110.trans (congrArg some (by kernel_rfl))
 f20:=⟨Tryz.f175.name,by decide,Tryz.func175.trans (congrArg some (by kernel_rfl))⟩
 f21:=⟨Tryz.f176.name,by decide,Tryz.func176.trans (congrArg some (by kernel_rfl))⟩
 f22:=⟨Tryz.f177.name,by decide,Tryz.func177.trans (congrArg some (by kernel_rfl))⟩
 f23:=⟨Tryz.f178.name,by decide,Tryz.func178.trans (congrArg some (by kernel_rfl))⟩
 f24:=⟨Tryz.f179.name,by decide,Tryz.func179.trans (congrArg some (by kernel_rfl))⟩
 f25:=⟨Tryz.f180.name,by decide,Tryz.func180.trans (congrArg some (by kernel_rfl))⟩
 f26:=⟨Tryz.f181.name,by decide,Tryz.func181.trans (congrArg some (by kernel_rfl))⟩
 f27:=⟨Tryz.f182.name,by decide,Tryz.func182.trans (congrArg some (by kernel_rfl))⟩
 f28:=Tryz.func158.trans (congrArg some (by kernel_rfl))
 f29:=Tryz.func159.trans (congrArg some (by kernel_rfl))
 f46:=⟨Tryz.f200.name,by decide,Tryz.func200.trans (congrArg some (by kernel_rfl))⟩
 f47:=Tryz.func193.trans (congrArg some (by kernel_rfl))
 f48:=Tryz.func194.trans (congrArg some (by kernel_rfl))
 f49:=⟨Tryz.f201.name,by decide,Tryz.func201.trans (congrArg some (by kernel_rfl))⟩
 f50:=⟨Tryz.f202.name,by decide,Tryz.func202.trans (congrArg some (by kernel_rfl))⟩
 f57:=⟨Tryz.f217.name,by decide,Tryz.func217.trans (congrArg some (by kernel_rfl))⟩
 t0:=Tryz.underlying0
 a0:=Tryz.isAgg0
 z0:=Tryz.sizeOf0
 v0:=Tryz.zeroValue0
 t3:=Tryz.underlying3
 a3:=Tryz.isAgg3
 z3:=Tryz.sizeOf3
 v3:=Tryz.zeroValue3
 t4:=Tryz.underlying4
 a4:=Tryz.isAgg4
 z4:=Tryz.sizeOf4
 v4:=Tryz.zeroValue4
 t5:=Tryz.underlying5
 a5:=Tryz.isAgg5
 z5:=Tryz.sizeOf5
 v5:=Tryz.zeroValue5
 t9:=Tryz.underlying9
 a9:=Tryz.isAgg9
 z9:=Tryz.sizeOf9
 v9:=Tryz.zeroValue9
 t22:=Tryz.underlying37
 a22:=Tryz.isAgg37
 z22:=Tryz.sizeOf37
 v22:=Tryz.zeroValue37
 t25:=Tryz.underlying143
 a25:=Tryz.isAgg143
 z25:=Tryz.sizeOf143
 v25:=Tryz.zeroValue143
 t39:=Tryz.underlying186
 a39:=Tryz.isAgg186
 z39:=Tryz.sizeOf186
 v39:=Tryz.zeroValue186
 t45:=Tryz.underlying222
 a45:=Tryz.isAgg222
 z45:=Tryz.sizeOf222
 v45:=Tryz.zeroValue222
 t46:=Tryz.underlying223
 a46:=Tryz.isAgg223
 z46:=Tryz.sizeOf223
 v46:=Tryz.zeroValue223
 t50:=Tryz.underlying141
 a50:=Tryz.isAgg141
 z50:=Tryz.sizeOf141
 v50:=Tryz.zeroValue141
 t53:=Tryz.underlying43
 a53:=Tryz.isAgg43
 z53:=Tryz.sizeOf43
 v53:=Tryz.zeroValue43
 t55:=Tryz.underlying230
 a55:=Tryz.isAgg230
 z55:=Tryz.sizeOf230
 v55:=Tryz.zeroValue230
 t66:=Tryz.underlying251
 a66:=Tryz.isAgg251
 z66:=Tryz.sizeOf251
 v66:=Tryz.zeroValue251
 t70:=Tryz.underlying255
 a70:=Tryz.isAgg255
 z70:=Tryz.sizeOf255
 v70:=Tryz.zeroValue255
 t76:=Tryz.underlying269
 a76:=Tryz.isAgg269
 z76:=Tryz.sizeOf269
 v76:=Tryz.zeroValue269
 t77:=Tryz.underlying270
 a77:=Tryz.isAgg270
 z77:=Tryz.sizeOf270
 v77:=Tryz.zeroValue270 }
end
end Go.Proofs.YteijbpppalhihaaGreat
namespace Go.Proofs.YteijbpppalhihaaGreat
section
open Go Go.AM Go.RowKit Go.Lib Go.Sort
instance:Inhabited Cr:=⟨⟨0,0⟩⟩
def fu(l:List Cr):List Cr:=l.mergeSort fun x y=>!(ltOf bp) y x
theorem pC(l:List Cr):(fu l).Perm l:=List.mergeSort_perm _ _
theorem jv(l:List Cr):(fu l).length=l.length:=(pC l).length_eq
theorem swoC:SWO (ltOf bp) where
 irrefl x:=by unfold ltOf;exact decide_eq_false (cmpC_irr x)
 trans x y z h g:=by unfold ltOf at *;exact decide_eq_true (jE (of_decide_eq_true h) (of_decide_eq_true g))
 ntrans x y z h g:=by unfold ltOf at *;exact decide_eq_false (ny (of_decide_eq_false h) (of_decide_eq_false g))
theorem totC(x y:Cr)(h:ltOf bp x y=false)(g:ltOf bp y x=false):x=y:=by
 unfold ltOf at *
 rcases qQ x y with h1 | h1 | h1
 ·exact absurd h1 (of_decide_eq_false h)
 ·exact h1
 ·exact absurd h1 (of_decide_eq_false g)
def oG(c:Cr):List Value:=[.int .i64 c.id,.int .i64 c.attr]
theorem enK2_len(c:Cr):(oG c).length=2:=rfl
theorem enK2_one(c:Cr):∀v∈oG c,v.oneCell'=true:=by
 intro v hv;simp only[oG,List.mem_cons,List.not_mem_nil,or_false]at hv
 rcases hv with rfl | rfl<;>rfl
theorem enK2_at(d:Array Cr)(i j:Nat)(hi:i<d.size)(hj:j<2):(flatK oG 2 d)[i*2+j]! = (oG d[i]!)[j]!:=by
 rw[get_flatK _ _ _ _ (by omega),show(i*2+j) / 2=i by omega,show(i*2+j) % 2=j by omega]
theorem rel_enK2{s:AM.St}(c:Cr)(j:Nat)(d:V)(h:(aN c).cells[j]?=some d):j<2∧Rel s d (oG c)[j]!:=by
 match j,h with
 | 0,h=>cases h;exact⟨by omega,.int _ _⟩
 | 1,h=>cases h;exact⟨by omega,.int _ _⟩
 | n+2,h=>simp[aN,V.cells]at h
theorem cmpLaysC(blk off size:Nat)(w:World):CmpLays Tryz.prog 75 #[] oG 2 bp blk off size w:=fun m os dk _ x y=>compareK x y _
theorem na{H:List B}{k:Nat}(l:List Cr)(n:Nat)(hn:l.length=n)(hk:k<H.length)(hl:n<4611686018427387904):
  bA Tryz.prog 101 [.buf k 0 n n,.fn 75 []] (CB H k l) fun r H'=>r = .tup []∧H'=CB H k (fu l):=by
 subst hn;have hH:=CB_at hk l;rw[←CB_set l (fu l)];generalize CB H k l=H at hH;refine⟨⟨Tryz.f101,Tryz.func101,rfl,rfl⟩,fun s vals hA hg hsz hrel=>?_⟩;obtain⟨rfl,hZ⟩:=hA
 obtain⟨u0,u1,rfl⟩:∃u0 u1,vals = #[u0,u1]:=by
  obtain⟨l⟩:=vals
  match l,hsz with
  | [a,b],_=>exact⟨a,b,rfl⟩
 have r0:=hrel 0 _ u0 rfl rfl;have r1:=hrel 1 _ u1 rfl rfl
 cases r1 with
 | fn _ _ us hul _ =>
 obtain rfl:us = #[]:=Array.eq_empty_of_size_eq_zero (by simpa using hul)
 cases r0 with
 | buf _ _ _ _ e2 z2 xs2 fz2 A n c hk2 ht hh =>
 rw[hH]at hk2;cases hk2;obtain⟨hA,rfl,hcap,_⟩:=hh (bd l).symm;rw[Nat.zero_add]at hcap;by_cases h0:l=[]
 ·subst h0;refine(AnyF.slices_SortFunc_none layC A c _ s.w).mono ?_;rintro e w' ⟨rfl,rfl⟩;refine⟨_,s,.tup [],rfl,rfl,hg,Step.refl s,.tup [] #[] rfl (by simp),rfl,?_⟩;rw[show fu []=[] by simp[fu]];apply List.ext_getElem?;intro i;rw[List.getElem?_set];split
  ·rename_i h;subst h;rw[if_pos (aE hH),hH]
  ·rfl
 ·have hpos:0<l.length:=List.length_pos_iff.2 h0;obtain⟨vs,g2,g3,g4,g5,g6,g7⟩:=hg.blk k _ hH;rw[bd]at g4
  have hκ:s.κ k≠0:=by omega
  have hA:=hA hκ;subst hA;have g2:=g2 hκ;have hlt:=(hg.lt k (lvB hH hκ)).1
  have hcell:∀i j,i<l.length→j<2→vs[i*2+j]?=some (oG l.toArray[i]!)[j]!:=fun i j hi hj=>by
   have hx:(crL l)[i]?=some (aN l[i]):=by simp[crL,hi]
   obtain⟨u,hv⟩:∃u,vs[i*2+j]?=some u:=⟨_,Array.getElem?_eq_getElem (show i*2+j<vs.size by omega)⟩;rw[hv]
   have e1:l.toArray[i]! = l[i]:=by simp[hi]
   rw[e1]
   match j,hj,hv with
   | 0,_,hv =>
    have:=g7 i _ 0 _ _ hx rfl hv
    cases this with
    | int=>rfl
   | 1,_,hv =>
    have:=g7 i _ 1 _ _ hx rfl hv
    cases this with
    | int=>rfl
  have hHo:HoldsK oG 2 s.w (s.φ k) (0*2) l.toArray:=by
   intro t ht;rw[size_flatK,List.size_toArray]at ht;rw[get_flatK _ _ _ _ (by simpa using ht)];have h3:=hcell (t / 2) (t % 2) (by omega) (by omega);rw[show t / 2*2+t % 2=t by omega]at h3;refine⟨?_,?_⟩
   ·simp only[World.cell?,g2,Nat.zero_mul,Nat.zero_add];simpa using h3
   ·simp[World.frozen?,g2]
  have hs:=AnyQ.slices_SortFunc_total layC 2 Tryz.isAgg49 Tryz.sizeOf49 oG enK2_len enK2_one bp swoC 75 #[] (s.φ k) (0*2) c l.toArray s.w
   (fun args w=>rfl) (cmpLaysC _ _ _ _) hHo hlt (by simpa using hl) totC
  refine hs.mono ?_;rintro e w' ⟨rfl,n,os,hw⟩
  have hw2:w'=grow (putRow id (Go.Sort.ahead s.w n) (s.φ k) 0 (flatK oG 2 (fu l).toArray)) os:=by
   rw[hw,Nat.zero_mul];rfl
  obtain⟨f1,f2⟩:=pJ (ys:=crL (fu l)) hg hH hκ (flatK oG 2 (fu l).toArray) n os (by rw[bd,bd,jv]) (by rw[size_flatK,List.size_toArray,jv,bd])
   (fun y hy=>by obtain⟨c,_,rfl⟩:=List.mem_map.1 hy;exact⟨rfl,by simp[aN,V.cells,V.one]⟩) (fun i y j d hy hd=>by
    have hil:=aE hy;rw[bd]at hil
    have:(crL (fu l))[i]?=some (aN (fu l)[i]):=by simp[crL,hil]
    rw[this]at hy;cases hy;obtain⟨hj,hr⟩:=rel_enK2 (s:=s) _ j d hd;rw[enK2_at _ _ _ (by simpa using hil) hj]
    simpa[hil] using hr) w' hw2
  exact⟨_,_,.tup [],rfl,rfl,f1,f2,.tup [] #[] rfl (by simp),rfl,rfl⟩
end
end Go.Proofs.YteijbpppalhihaaGreat
namespace Go.Proofs.YteijbpppalhihaaGreat
section
open Go Go.AM
theorem Scalar.cells'{x:V}(h:Scalar x):∀c∈x.cells,Scalar c:=by
 cases h with
 | agg cs h=>exact h
 | _=>intro c hc;simp[V.cells]at hc;subst hc;constructor<;>assumption
theorem conH_of_conOL{P:Program}{f:FuncId}{args args':List V}{K:Nat→Nat→List V→Prop}{H:List B}(h:kX P f args' K)(hl:args.length=args'.length)(he:∀(i:Nat) a a',args[i]?=some a→args'[i]?=some a'→Exp H a a')
  (hs:∀e z xs,K e z xs→∀x∈xs,Scalar x):
  bA P f args H fun r H'=>∃e z xs,r = .buf H.length 0 xs.length xs.length∧H'=H++[.buf e z xs false]∧(∀x∈xs,AM.Pure x)∧K e z xs:=by
 refine⟨h.1,fun s vals hH hg hsz hrel=>?_⟩;obtain⟨rfl,hZ⟩:=hH
 have hFl:∀b,hold s (fun _=>True) b→b<s.w.heap.size:=by
  rintro b (h | ⟨k,hk,rfl,_⟩)
  ·exact hg.fl b h
  ·exact(hg.lt k hk).1
 refine(h.2 (hold s fun _=>True) s.w vals (hZ.hold _) hFl (by omega) (fun i a' u ha' hu=>?_)).mono fun e w' ⟨u,e',z,xs,A,g0,c,a1,a2,aA,a3,a4,a5,a6,a7⟩=>?_
 ·have hi:i<args.length:=by have:=aE ha';omega
  have ha:args[i]?=some args[i]:=List.getElem?_eq_getElem hi;exact(hrel i _ u ha hu).exp hg (he i _ a' ha ha') (fun _ _ _ _ _=>trivial)
 ·subst a2;by_cases hc0:c=0
  ·subst hc0;obtain⟨_,_,_,g4,_⟩:=a5.blk 0 _ rfl;obtain rfl:xs=[]:=List.eq_nil_of_length_eq_zero (by simpa using g4);obtain⟨p1,p2⟩:=nc hg 0 e' z false a6.os a6.tape a6.output a6.size a6.block;refine⟨_,s.push w' 0 0 (.buf e' z [] false),.buf s.H.length 0 0 0,a1,rfl,p1,p2,?_,e',z,[],rfl,rfl,a3,a7⟩;refine .buf s.H.length 0 0 0 e' z [] false _ _ _ (by simp[St.push]) (Nat.le_refl _) (fun _=>?_);simp only[St.push,aZ];exact⟨fun h=>absurd rfl h,by simp,by simp,by simp⟩
  have a4:=a4 hc0;have hA:=aA hc0;subst hA;have hgl:g0<w'.heap.size:=(a5.lt 0 (lvB (e:=e') (z:=z) (xs:=xs) (fz:=false) rfl hc0)).1;have hst:=eb (bl:=.buf e' z xs false) (c:=c) hg a6.os a6.tape a6.output a6.size a6.block a4;refine⟨_,s.push w' g0 c (.buf e' z xs false),.buf s.H.length 0 xs.length xs.length,a1,rfl,fg hg a6.os a6.tape a6.output a6.size a6.block a4 hgl (fun hst=>?_),hst,?_,e',z,xs,rfl,rfl,a3,a7⟩
  ·obtain⟨vs,g2,g3,g4,g5,g6,g7⟩:=a5.blk 0 _ rfl;exact⟨vs,fun _=>by simp only[St.push,aZ];exact g2 hc0,by simp only[St.push,aZ];exact g3,by simp only[St.push,aZ];exact g4,by simp only[St.push,aZ];exact g5,g6,fun i x j d u hx hd hu=>(g7 i x j d u hx hd hu).scalar (t:=s.push w' g0 c (.buf e' z xs false)) (Scalar.cells' (hs _ _ _ a7 x (List.mem_of_getElem? hx)) d (List.mem_of_getElem? hd))⟩
  ·refine .buf s.H.length 0 xs.length xs.length e' z xs false _ _ _ (by simp[St.push]) (Nat.le_refl _) (fun _=>?_);simp only[St.push,aZ];exact⟨fun _=>by simp,trivial,by simp,by simp⟩
inductive ExpN (H:List B) (n:Nat):V→V→Prop
 | pure (v:V) (h:AM.Pure v):ExpN H n v v
 | buf (k off len e z:Nat) (xs:List V) (fz:Bool) (hn:n≤k) (hk:H[k]?=some (.buf e z xs fz)) (hl:off+len≤xs.length) (hp:∀x∈xs,AM.Pure x):ExpN H n (.buf k off len xs.length) (.lst z false ((xs.drop off).take len))
 | agg (cs ds:List V) (hl:cs.length=ds.length) (h:∀(i:Nat) c d,cs[i]?=some c→ds[i]?=some d→ExpN H n c d):ExpN H n (.agg cs) (.agg ds)
 | tup (cs ds:List V) (hl:cs.length=ds.length) (h:∀(i:Nat) c d,cs[i]?=some c→ds[i]?=some d→ExpN H n c d):ExpN H n (.tup cs) (.tup ds)
theorem ExpN.ex{H:List B}{n:Nat}{v v':V}(h:ExpN H n v v'):∃d0,∀d,d0≤d→exV H n d v=some v':=by
 induction h with
 | pure v h=>exact mJ h
 | buf k off len e z xs fz hn hk hl hp =>
  obtain⟨d0,h0⟩:=gJ (f:=exV H n) (xs:=(xs.drop off).take len) (fun v hv=>mJ (hp v (List.mem_of_mem_drop (List.mem_of_mem_take hv))));refine⟨d0+1,fun d hd=>?_⟩;obtain⟨m,rfl⟩:∃m,d=m+1:=⟨d-1,by omega⟩;simp only[exV];rw[if_neg (by omega),hk];simp only;rw[if_pos ⟨by first | trivial | rfl,hl⟩,h0 m (by omega)]
 | agg cs ds hl _ ih =>
  obtain⟨d0,h0⟩:=nI (f:=exV H n) hl ih;exact⟨d0+1,fun d hd=>by obtain⟨m,rfl⟩:∃m,d=m+1:=⟨d-1,by omega⟩;simp only[exV,h0 m (by omega)]⟩
 | tup cs ds hl _ ih =>
  obtain⟨d0,h0⟩:=nI (f:=exV H n) hl ih;exact⟨d0+1,fun d hd=>by obtain⟨m,rfl⟩:∃m,d=m+1:=⟨d-1,by omega⟩;simp only[exV,h0 m (by omega)]⟩
theorem jh{H:List B}{n:Nat}{a b c d:V}(h1:ExpN H n a c)(h2:ExpN H n b d):∀(i:Nat) x y,[a,b][i]?=some x→[c,d][i]?=some y→ExpN H n x y:=fun i x y hx hy=>by
 match i with
 | 0=>simp at hx hy;subst hx;subst hy;exact h1
 | 1=>simp at hx hy;subst hx;subst hy;exact h2
 | i+2=>simp at hx
theorem gI{H:List B}{n k len tot e z:Nat}{xs:List V}{fz:Bool}(hn:n≤k)(hk:H[k]?=some (.buf e z xs fz))(ht:tot=xs.length)(hl:len≤tot)(hp:∀x∈xs,AM.Pure x):ExpN H n (.buf k 0 len tot) (.lst z false (xs.take len)):=by
 subst ht;have:=ExpN.buf k 0 len e z xs fz hn hk (by omega) hp
 rwa [List.drop_zero]at this
theorem lD{P:Program}{f:FuncId}{args:List V}{H:List B}{K:V→Prop}(h:bA P f args H fun x y=>∃G r',y=H++G∧ExpN y H.length x r'∧AM.Pure r'∧K r'):bA P f args H fun x y=>K x∧AM.Pure x∧y=H:=by
 refine⟨h.1,fun s vals hA hg hsz hrel=>?_⟩;have hH:=hA.1
 refine(h.2 s vals hA hg hsz hrel).mono fun e w' ⟨u,s',x,a1,a2,a3,a4,a5,G,r',a7,a8,a9,a10⟩=>?_
 have hcl:∀bl∈H,ClB H.length bl:=by have:=hg.cl;rw[hH]at this;exact this
 refine⟨u,s'.cut H,r',a1,a2,cut_good2 a3 a7 hcl,?_,?_,a10,a9,rfl⟩
 ·exact jl a3 a7 (Step.refl (s'.cut H)) s a4 (by rw[hH];exact Nat.le_refl _)
 ·obtain⟨d0,hd⟩:=a8.ex;exact ex_rel a3 a7 d0 x r' u a5 (hd d0 (Nat.le_refl _))
theorem kd{P:Program}{f:FuncId}{args:List V}{K:V→Prop}(h:bA P f args [] fun x y=>K x∧AM.Pure x∧y=[]):aR P f args K :=
 aC (h.mono fun r H' ⟨h1,h2,h3⟩=>⟨r,.pure r h2,h2,h1⟩)
end
end Go.Proofs.YteijbpppalhihaaGreat
namespace Go.Proofs.YteijbpppalhihaaGreat
section
open Go Go.AM Go.RowKit Go.Lib
theorem infoG_N:(Tryz.prog.info? 90).map (fun i=>(i.zero,i.size,i.bytes))=some (some (.agg #[.int .i64 0,.slice none 0 0]),2,32):=by kernel_rfl
theorem growPos_N(n:Nat)(w:World)(h0:0<n)(hn:n≤1000000):Calls Tryz.prog 191 #[.slice none 0 0,.int .i64 n] w fun e w' =>
   e = .returned (.slice (some ⟨w.heap.size,0,none⟩) 0 (grownCap w n 0 90))∧w'=w.drew.alloc (.cells (Builtin.zeroCells (.agg #[.int .i64 0,.slice none 0 0]:Value).cells n++Builtin.zeroCells (.agg #[.int .i64 0,.slice none 0 0]:Value).cells (grownCap w n 0 90-n)) 90):=by
 obtain⟨i0,hi0,hz0,hs0,hby⟩:=info_parts infoG_N
 have h1:¬((n:Int)<0):=by omega
 have hz25:∀w,(Go.sizeOf 90).run Tryz.prog w = .ok 2 w:=fun w=>by simp[Go.sizeOf,typeInfo,hi0,hs0]
 have hold:(Builtin.firstCells i0.size 0 (.slice none 0 0)).run Tryz.prog w.drew = .ok ([]:List Value).toArray w.drew:=run_firstCells_none w.drew i0.size 0 0 0
 have hbig:(0+n)*i0.bytes≤140737488355328:=by rw[hby];omega
 have hrz:∀ty,(Builtin.append_ #[72,3] ty #[.slice none 0 0,.int .i64 (n:Int)]).run Tryz.prog w =
   .ok (.slice (some ⟨w.heap.size,0,none⟩) n (grownCap w n 0 90)) (w.drew.alloc (.cells (Builtin.zeroCells (.agg #[.int .i64 0,.slice none 0 0]:Value).cells n++Builtin.zeroCells (.agg #[.int .i64 0,.slice none 0 0]:Value).cells (grownCap w n 0 90-n)) 90)):=fun ty=>by
  have h:=Lib.run_append_grow_zeros (P:=Tryz.prog) w 72 3 ty 90 i0 _ .i64 .i64 Tryz.underlying72 Tryz.underlying3 hi0 hz0 none 0 0 [] hold n h0 (by omega) (by omega) (by omega)
   (by rw[hby];omega)
   (growslice_fits (by omega) hbig)
  simpa using h
 have hGn:n≤grownCap w n 0 90:=grownCap_ge w _ _ _;obtain⟨G,hG⟩:∃G,G=grownCap w n 0 90:=⟨_,rfl⟩;rw[←hG]at hrz hGn ⊢
 have hG63:G≤9223372036854775807:=by
  have:=grownCap_le_maxLen w n 0 90 (by unfold maxLen;omega);rw[←hG]at this;unfold maxLen at this;omega
 have h2:RowKit.wrap64 ((0:Int)-0)=0:=by unfold RowKit.wrap64;omega
 have h3:RowKit.wrap64 ((n:Int)-0)=(n:Int):=by unfold RowKit.wrap64;omega
 have h4:(n:Int)> 0:=by omega
 clear hold hG hbig
 go_enter Tryz.func191,Tryz.ntmps191
 go_wp2_with (at_builtin;refine Lib.wpList_append_run _ rfl _ _ _ _ rfl _ _ rfl rfl _ _ (hrz _) ?_)
 all_goals (go_ret;exact⟨rfl,rfl⟩)
theorem growNil_N(w:World):Calls Tryz.prog 191 #[.slice none 0 0,.int .i64 0] w fun e w'=>e = .returned (.slice none 0 0)∧w'=w:=by
 go_enter Tryz.func191,Tryz.ntmps191
 go_wp2
 go_ret
 exact⟨rfl,rfl⟩
theorem grow_con_N(n:Nat)(hn:n≤1000000):kX Tryz.prog 191 [.nilS,.int .i64 n] fun e z ys=>e=90∧z=2∧ys=[]:=by
 refine conO_row ⟨Tryz.f191,Tryz.func191,rfl,rfl⟩ (fun F w vals hsz hrel=>?_)
 obtain⟨u0,u1,rfl⟩:∃u0 u1,vals = #[u0,u1]:=by
  obtain⟨l⟩:=vals
  match l,hsz with
  | [a,b],_=>exact⟨a,b,rfl⟩
 have r0:=hrel 0 _ u0 rfl rfl;have r1:=hrel 1 _ u1 rfl rfl;cases r0;cases r1;by_cases h0:n=0
 ·subst h0
  exact(growNil_N w).mono fun e w' ⟨h1,h2⟩=>⟨_,h1,by subst h2;exact Below.refl _ _,.inl rfl⟩
 ·refine(growPos_N n w (by omega) hn).mono fun e w' ⟨h1,h2⟩=>?_
  subst h2;have hge:=grownCap_ge w n 0 90;refine⟨_,h1,((Below.refl _ _).drew).alloc (Nat.le_refl _) _,.inr ⟨w.heap.size,grownCap w n 0 90,Builtin.zeroCells (.agg #[.int .i64 0,.slice none 0 0]:Value).cells n++Builtin.zeroCells (.agg #[.int .i64 0,.slice none 0 0]:Value).cells (grownCap w n 0 90-n),rfl,Nat.le_refl _,?_,by omega,grownCap_le_maxLen w n 0 90 (by unfold maxLen;omega),?_⟩⟩
  ·exact Array.getElem?_push_size (xs:=w.heap)
  ·rw[Array.size_append,size_zeroCells,size_zeroCells,←Nat.add_mul,Nat.add_sub_cancel' hge];rfl
end
end Go.Proofs.YteijbpppalhihaaGreat
namespace Go.Proofs.YteijbpppalhihaaGreat
section
open Go Go.AM Go.RowKit
structure FlV where
 f:Bool
 xs:List V
def dU(l:FlV):V:=.lst 2 l.f l.xs
def cz(ls:List FlV):List V:=(ls.map (·.xs)).flatten
theorem kP(ls:List FlV)(i:Nat)(h:i<ls.length):cz (ls.take (i+1))=cz (ls.take i)++ls[i].xs:=by
 unfold cz;rw[List.take_succ_eq_append_getElem h,List.map_append,List.flatten_append];simp
theorem catL_le(ls:List FlV)(i:Nat):(cz (ls.take i)).length≤(cz ls).length:=by
 conv=>rhs;rw[←List.take_append_drop i ls]
 unfold cz;rw[List.map_append,List.flatten_append,List.length_append];omega
theorem iW{ls:List FlV}(hp:∀l∈ls,∀x∈l.xs,AM.Pure x∧dm x=true∧x.cells.length=2):∀x∈cz ls,AM.Pure x∧dm x=true:=by
 intro x hx;obtain⟨l,hl,h⟩:=List.mem_flatten.1 hx;obtain⟨y,hy,rfl⟩:=List.mem_map.1 hl;exact⟨(hp y hy x h).1,(hp y hy x h).2.1⟩
theorem catW_N(n:Nat)(h:n≤1000000):n≤9223372036854775807∧n*32≤140737488355328:=by omega
theorem concat_N(ls:List FlV)(g:Bool)(hp:∀l∈ls,∀x∈l.xs,AM.Pure x∧dm x=true∧x.cells.length=2)(hl:ls.length≤1000000)(hs:(cz ls).length≤1000000):aR Tryz.prog 149 [.lst 1 g (ls.map dU)] fun r=>r = .lst 2 false (cz ls):=by
 have htl:=fun i=>catL_le ls i
 have hpF:∀l∈ls,AM.Pure (dU l):=fun l hl=>.lst _ _ _ (fun x hx=>(hp l hl x hx).1)
 refine aC (aD tok Tryz.func149 rfl rfl ?_);refine wx ?_;simp -implicitDefEqProofs -dsimp[Tryz.f149,List.replicate,dU];refine aK (W_loopM 23 [3,5,11,12,13,14,15,16,17,18,19,20,21,22] (by simp[mB]<;>rfl) (σ:=Nat) (fun i=>i≤ls.length) (fun i=>ls.length-i) (fun i=>[(11,.int .i64 i),(3,.int .i64 ((cz (ls.take i)).length:Nat))]) (fun _=>[]) 0 (by omega) (by simp[cz]) rfl (by simp) ?_);intro i hi N Q hN hQ;by_cases hb:i<ls.length
 ·have hsu:=kP ls i hb;have h1:=htl i;have h2:=htl (i+1);rw[hsu,List.length_append]at h2;obtain⟨c,hc⟩:∃c,c=(cz (ls.take i)).length:=⟨_,rfl⟩;rw[←hc]at h1 h2
  have hlx:(cz (ls.take (i+1))).length=c+ls[i].xs.length:=by rw[hsu,List.length_append,hc]
  obtain⟨x,hx⟩:∃x,x=ls[i]:=⟨_,rfl⟩;rw[←hx]at h2 hlx;have hx':=hx.symm;obtain⟨d,hd⟩:∃d,d=c+x.xs.length:=⟨_,rfl⟩
  have hw:IntKind.i64.wrap ((c:Int)+(x.xs.length:Int))=(d:Int):=by rw[wrap64 (by omega) (by omega),hd];push_cast;rfl
  refine wx ?_;simp -implicitDefEqProofs -dsimp[hb,hx',hw,show ¬(d:Int)<0 by omega,aJ i (by omega),←hc,dU];refine hN (i+1) _ _ (by omega) (by omega) (by simp[hlx,hd]) ⟨[],rfl⟩ (by simp;exact hpF) (by simp)
 ·obtain rfl:i=ls.length:=by omega
  rw[List.take_length];have hg:=callO (H:=[]) (grow_con_N (cz ls).length hs) (by simp);refine wx ?_;simp -implicitDefEqProofs -dsimp[hb,dU];refine hQ _ _ _ ?_;simp -implicitDefEqProofs -dsimp[dU];refine hg.mono ?_;rintro r H' ⟨e,z,xs,rfl,rfl,_,rfl,rfl,rfl⟩;simp -implicitDefEqProofs -dsimp[dU];refine aK (W_loopM 35 [6,8,27,28,29,30,31,32,33,34] (by simp[mB]<;>rfl) (σ:=Nat) (fun i=>i≤ls.length) (fun i=>ls.length-i) (fun i=>[(27,.int .i64 i),(6,.buf 0 0 (cz (ls.take i)).length (cz (ls.take i)).length)]) (fun i=>[B.buf 90 2 (cz (ls.take i)) false]) 0 (by omega) (by simp[cz]) (by simp[cz]) (by simp) ?_);intro i hi N2 Q2 hN2 hQ2;by_cases hb:i<ls.length
  ·have hsu:=kP ls i hb;have h2:=htl (i+1);have hpi:=hp ls[i] (List.getElem_mem hb);have hpc:=iW (ls:=ls.take (i+1)) (fun l hl=>hp l (List.mem_of_mem_take hl));obtain⟨x,hx⟩:∃x,x=ls[i]:=⟨_,rfl⟩;rw[←hx]at hsu hpi;have hx':=hx.symm;rw[hsu]at h2 hpc;obtain⟨xs,hxs⟩:∃xs,xs=x.xs:=⟨_,rfl⟩;have hxs':=hxs.symm;rw[←hxs]at hsu h2 hpc hpi;by_cases h0:xs=[]
   ·rw[h0,List.append_nil]at hsu;refine wx ?_;simp -implicitDefEqProofs -dsimp[hb,hx',hxs',h0,aJ i (by omega),dU];refine hN2 (i+1) _ _ (by omega) (by omega) (by simp[hsu]) ⟨[],by simp[hsu]⟩ (by simp;exact hpF) (by rw[h0,List.append_nil]at hpc;intro bl hbl;rcases List.mem_cons.1 hbl with rfl | hbl;exact(rbB_buf1 (by rw[hsu];exact hpc)).2 trivial;cases hbl)
   ·obtain⟨c,hc⟩:∃c,c=cz (ls.take i):=⟨_,rfl⟩;rw[←hc]at hsu h2 hpc;rw[List.length_append]at h2;refine wx ?_;simp -implicitDefEqProofs -dsimp[hb,hx',hxs',h0,aJ i (by omega),←hc,catW_N (c.length+xs.length) (by omega),dU];refine hN2 (i+1) _ _ (by omega) (by omega) (by simp[hsu]) ⟨[],by simp[hsu]⟩ (by simp;exact hpF) (by intro bl hbl;rcases List.mem_cons.1 hbl with rfl | hbl;exact(rbB_buf1 (by rw[hsu];exact hpc)).2 trivial;cases hbl)
  ·obtain rfl:i=ls.length:=by omega
   rw[List.take_length];refine wx ?_;simp -implicitDefEqProofs -dsimp[hb,dU];refine hQ2 _ _ _ ?_;simp -implicitDefEqProofs -dsimp[dU];exact⟨dK rfl rfl (fun x hx=>(iW hp x hx).1),fun x hx=>(iW hp x hx).1⟩
theorem catW_C(n:Nat)(h:n≤1000000):n≤9223372036854775807∧n*16≤140737488355328:=by omega
theorem concatO_C(ls:List FlV)(g:Bool)(hp:∀l∈ls,∀x∈l.xs,AM.Pure x∧dm x=true∧x.cells.length=2)(hl:ls.length≤1000000)(hs:(cz ls).length≤1000000):kX Tryz.prog 100 [.lst 1 g (ls.map dU)] fun e z xs=>e=49∧z=2∧xs=cz ls:=by
 have htl:=fun i=>catL_le ls i
 have hpF:∀l∈ls,AM.Pure (dU l):=fun l hl=>.lst _ _ _ (fun x hx=>(hp l hl x hx).1)
 refine mU (aD tok Tryz.func100 rfl rfl ?_);refine wx ?_;simp -implicitDefEqProofs -dsimp[Tryz.f100,List.replicate,dU];refine aK (W_loopM 23 [3,5,11,12,13,14,15,16,17,18,19,20,21,22] (by simp[mB]<;>rfl) (σ:=Nat) (fun i=>i≤ls.length) (fun i=>ls.length-i) (fun i=>[(11,.int .i64 i),(3,.int .i64 ((cz (ls.take i)).length:Nat))]) (fun _=>[]) 0 (by omega) (by simp[cz]) rfl (by simp) ?_);intro i hi N Q hN hQ;by_cases hb:i<ls.length
 ·have hsu:=kP ls i hb;have h1:=htl i;have h2:=htl (i+1);rw[hsu,List.length_append]at h2;obtain⟨c,hc⟩:∃c,c=(cz (ls.take i)).length:=⟨_,rfl⟩;rw[←hc]at h1 h2
  have hlx:(cz (ls.take (i+1))).length=c+ls[i].xs.length:=by rw[hsu,List.length_append,hc]
  obtain⟨x,hx⟩:∃x,x=ls[i]:=⟨_,rfl⟩;rw[←hx]at h2 hlx;have hx':=hx.symm;obtain⟨d,hd⟩:∃d,d=c+x.xs.length:=⟨_,rfl⟩
  have hw:IntKind.i64.wrap ((c:Int)+(x.xs.length:Int))=(d:Int):=by rw[wrap64 (by omega) (by omega),hd];push_cast;rfl
  refine wx ?_;simp -implicitDefEqProofs -dsimp[hb,hx',hw,show ¬(d:Int)<0 by omega,aJ i (by omega),←hc,dU];refine hN (i+1) _ _ (by omega) (by omega) (by simp[hlx,hd]) ⟨[],rfl⟩ (by simp;exact hpF) (by simp)
 ·obtain rfl:i=ls.length:=by omega
  rw[List.take_length];have hg:=callO (H:=[]) (ku (cz ls).length hs) (by simp);refine wx ?_;simp -implicitDefEqProofs -dsimp[hb,dU];refine hQ _ _ _ ?_;simp -implicitDefEqProofs -dsimp[dU];refine hg.mono ?_;rintro r H' ⟨e,z,xs,rfl,rfl,_,rfl,rfl,rfl⟩;simp -implicitDefEqProofs -dsimp[dU];refine aK (W_loopM 35 [6,8,27,28,29,30,31,32,33,34] (by simp[mB]<;>rfl) (σ:=Nat) (fun i=>i≤ls.length) (fun i=>ls.length-i) (fun i=>[(27,.int .i64 i),(6,.buf 0 0 (cz (ls.take i)).length (cz (ls.take i)).length)]) (fun i=>[B.buf 49 2 (cz (ls.take i)) false]) 0 (by omega) (by simp[cz]) (by simp[cz]) (by simp) ?_);intro i hi N2 Q2 hN2 hQ2;by_cases hb:i<ls.length
  ·have hsu:=kP ls i hb;have h2:=htl (i+1);have hpi:=hp ls[i] (List.getElem_mem hb);have hpc:=iW (ls:=ls.take (i+1)) (fun l hl=>hp l (List.mem_of_mem_take hl));obtain⟨x,hx⟩:∃x,x=ls[i]:=⟨_,rfl⟩;rw[←hx]at hsu hpi;have hx':=hx.symm;rw[hsu]at h2 hpc;obtain⟨xs,hxs⟩:∃xs,xs=x.xs:=⟨_,rfl⟩;have hxs':=hxs.symm;rw[←hxs]at hsu h2 hpc hpi;by_cases h0:xs=[]
   ·rw[h0,List.append_nil]at hsu;refine wx ?_;simp -implicitDefEqProofs -dsimp[hb,hx',hxs',h0,aJ i (by omega),dU];refine hN2 (i+1) _ _ (by omega) (by omega) (by simp[hsu]) ⟨[],by simp[hsu]⟩ (by simp;exact hpF) (by rw[h0,List.append_nil]at hpc;intro bl hbl;rcases List.mem_cons.1 hbl with rfl | hbl;exact(rbB_buf1 (by rw[hsu];exact hpc)).2 trivial;cases hbl)
   ·obtain⟨c,hc⟩:∃c,c=cz (ls.take i):=⟨_,rfl⟩;rw[←hc]at hsu h2 hpc;rw[List.length_append]at h2;refine wx ?_;simp -implicitDefEqProofs -dsimp[hb,hx',hxs',h0,aJ i (by omega),←hc,catW_C (c.length+xs.length) (by omega),dU];refine hN2 (i+1) _ _ (by omega) (by omega) (by simp[hsu]) ⟨[],by simp[hsu]⟩ (by simp;exact hpF) (by intro bl hbl;rcases List.mem_cons.1 hbl with rfl | hbl;exact(rbB_buf1 (by rw[hsu];exact hpc)).2 trivial;cases hbl)
  ·obtain rfl:i=ls.length:=by omega
   rw[List.take_length];refine wx ?_;simp -implicitDefEqProofs -dsimp[hb,dU];refine hQ2 _ _ _ ?_;simp -implicitDefEqProofs -dsimp[dU];exact⟨0,49,2,cz ls,by simp,rfl,fun x hx=>(iW hp x hx).1,rfl,rfl,rfl⟩
end
end Go.Proofs.YteijbpppalhihaaGreat
namespace Go.AM
section
open Go
section
section
variable {P:Program} {T:Ty}
theorem nb{ops:Array Oper}{fr:List V}{val val':Nat→V}{D:Nat→Bool}{t:Nat}(h:∀k,D k=true→val k=val' k):∀n,bh ops fr val D n t=bh ops fr val' D n t
 | 0=>rfl
 | n+1=>by
  simp only[bh];rw[nb h n];by_cases hD:D n=true
  ·rw[h n hD]
  ·rw[if_neg (fun hh=>hD hh.1),if_neg (fun hh=>hD hh.1)]
theorem drawJ_sound(hT:TOk P T){ops:Array Oper}{E:Bool→List Nat}{val:Bool→Nat→V}{Hs:Bool→Nat→List B}{fr:List V}{s0:St}{Q:Exit→Act→World→Prop}(hz0:GOk P s0)
  (hst:ic ops []=true) (hE:∀j,∀e∈E j,e<ops.size) (hnd:∀j,(E j).Nodup) (hperm:∀j j' e,e∈E j'→e∈E j)
  (hsw:∀j c i,i∈(E j).drop c→(∀e∈(E j).drop c,e≠i→bef (aO [] ops.toList) e i=false)→∃j',(E j').length=(E j).length∧(E j').take c=(E j).take c∧(E j')[c]?=some i∧Hs j' c=Hs j c∧∀k,(∀e∈(E j).drop c,k≠e∧bef (aO [] ops.toList) e k=false)→val j' k=val j k)
  (hcl:∀j i o,ops[i]?=some o→gS T ops (aT P) (aO [] ops.toList) (E j) (Hs j) o i (al ops fr (val j) i) (val j i))
  (hQ:∀j s a,Good s→Step s0 s→FRel s (al ops fr (val j) ops.size) a.tmps→a.defers=[]→s.H=Hs j (E j).length→Q .normal a s.w):
  ∀(fuel:Nat) (listed:Array Bool) (s:St) (a:Act) (j:Bool) (c:Nat),listed.size=ops.size→eT ops (fun i=>listed.getD i false)→
   ((List.range ops.size).filter fun i=>!(listed.getD i false)).length≤fuel→c≤(E j).length→(∀k e,(E j)[k]?=some e→(listed.getD e false=true↔k<c))→
   Good s→Step s0 s→s.H=Hs j c→FRel s (dN ops fr (val j) fun i=>listed.getD i false) a.tmps→a.defers=[]→wpAny P .any ops Q fuel listed a s.w:=by
 simp only[ic,Bool.and_eq_true,List.all_eq_true,decide_eq_true_eq,List.mem_range]at hst;have hops:=hst.2
 have hback:∀(j:Nat) (o:Oper),ops[j]?=some o→∀e∈o.after.toList,Region.binds .any e=true→e.on<j:=fun j o ho e he hbd=>by
  have hj:=(Array.getElem?_eq_some_iff.1 ho).1;have:=hops j hj;rw[ho]at this;simp only[Bool.and_eq_true,List.all_eq_true]at this;have h1:=this.1.1 e he;rw[hbd]at h1;simpa using h1
 have htmp:∀(j i:Nat) (oj oi:Oper) (t:Nat),ops[j]?=some oj→ops[i]?=some oi→t∈dI ops oj→oi.dst=some t→i=j∨(i<j∧bef (aO [] ops.toList) i j=true)∨(j<i∧bef (aO [] ops.toList) j i=true):=fun j i oj oi t hoj hoi ht hd=>by
  have hj:=(Array.getElem?_eq_some_iff.1 hoj).1;have hi:=(Array.getElem?_eq_some_iff.1 hoi).1;have:=hops j hj;rw[hoj]at this;simp only[Bool.and_eq_true,List.all_eq_true]at this;have h2:=this.1.2 t ht i (by simpa using hi);rw[hoi]at h2;simp only[hd,Bool.or_eq_true,Bool.and_eq_true,decide_eq_true_eq,beq_iff_eq,Bool.not_eq_true',beq_eq_false_iff_ne,ne_eq,not_true_eq_false,false_or]at h2
  rcases h2 with(h | h) | h
  ·exact .inl h
  ·exact .inr (.inl h)
  ·exact .inr (.inr h)
 have hmask:∀(D:Nat→Bool),eT ops D→∀i j,j<ops.size→bef (aO [] ops.toList) i j=true→D j=true→D i=true:=fun D hD i j hj hb hDj=>by
  obtain⟨ms,h1,h2,_⟩:=iu ops.toList [];rw[List.nil_append]at h1
  have hlen:(aO [] ops.toList).length=ops.size:=by rw[h1,h2];simp
  have hm:(aO [] ops.toList)[j]?=some ((aO [] ops.toList)[j]'(by omega)):=List.getElem?_eq_getElem (by omega);unfold bef at hb;rw[hm]at hb;exact ni hD hback j i _ hm hb hDj
 have fin:∀(listed:Array Bool) (s:St) (a:Act) (jj:Bool) (c:Nat),(∀i,i<ops.size→listed.getD i false=true)→c≤(E jj).length→(∀k e,(E jj)[k]?=some e→(listed.getD e false=true↔k<c))→Good s→Step s0 s→s.H=(Hs jj) c →
   FRel s (dN ops fr (val jj) fun i=>listed.getD i false) a.tmps→a.defers=[]→Q .normal a s.w:=fun listed s a jj c hall hc hpre hg hs hH hf hd=>by
  have hcE:c=(E jj).length:=by
   rcases Nat.lt_or_ge c (E jj).length with h | h
   ·have he:(E jj)[c]?=some (E jj)[c]:=List.getElem?_eq_getElem h;have:=(hpre c _ he).1 (hall _ (hE jj _ (List.getElem_mem h)));omega
   ·omega
  subst hcE;refine hQ jj s a hg hs ?_ hd hH
  have:(dN ops fr (val jj) fun i=>listed.getD i false)=al ops fr (val jj) ops.size:=by
   apply List.ext_getElem?;intro t;rw[dH,eO];refine dQ (fun j hj _=>hall j hj) (fun j hj hdst=>?_) ops.size (Nat.le_refl _);rw[Array.getElem?_eq_none hj]at hdst;simp at hdst
  rwa [this]at hf
 have done:∀(listed:Array Bool),listed.size=ops.size→Region.ready .any ops listed=[]→∀i,i<ops.size→listed.getD i false=true:=fun listed hsz hr i=>by
  induction i using Nat.strongRecOn with
  | _ i ih =>
   intro hi
   cases hD:listed.getD i false with
   | true=>rfl
   | false =>
    exfalso
    have hmem:i∈Region.ready .any ops listed:=by
     unfold Region.ready;rw[List.mem_filter]
     have ho:ops[i]?=some ops[i]:=by simp[hi]
     have hil:i<listed.size:=by omega
     refine⟨by simpa using hi,?_⟩;rw[ho];simp only[Option.map_some,Option.getD_some,Bool.and_eq_true,Bool.not_eq_true'];refine⟨by simp[Array.getD,hil]at hD ⊢;exact hD,?_⟩;rw[Array.all_eq_true'];intro e he;by_cases hbd:Region.binds .any e=true
     ·have hlt:=hback i _ ho e (by simpa using he) hbd;simp[ih e.on hlt (by omega)]
     ·simp[hbd]
    rw[hr]at hmem;simp at hmem
 intro fuel
 induction fuel with
 | zero =>
  intro listed s a jj c hsz hcl2 hcnt hc hpre hg hs hH hf hd
  have hall:∀i,i<ops.size→listed.getD i false=true:=fun i hi=>by
   cases hD:listed.getD i false with
   | true=>rfl
   | false =>
    exfalso
    have:i∈(List.range ops.size).filter fun i=>!(listed.getD i false):=by rw[List.mem_filter];exact⟨by simpa using hi,by simp only[hD];rfl⟩
    have h0:((List.range ops.size).filter fun i=>!(listed.getD i false))=[]:=List.eq_nil_of_length_eq_zero (by omega);rw[h0]at this;simp at this
  refine⟨?_,fin listed s a jj c hall hc hpre hg hs hH hf hd⟩;unfold Region.ready;rw[List.filter_eq_nil_iff];intro i hi
  have hil:i<listed.size:=by rw[hsz];simpa using hi
  have:=hall i (by simpa using hi)
  have h1:listed.getD i true=true:=by simpa[Array.getD,hil] using this
  simp[h1]
 | succ fuel ih =>
  intro listed s a jj c hsz hcl2 hcnt hc hpre hg hs hH hf hd;refine⟨fun hr=>fin listed s a jj c (done listed hsz hr) hc hpre hg hs hH hf hd,fun i hi=>?_⟩;unfold Region.ready at hi;rw[List.mem_filter]at hi;obtain⟨hin,hcond⟩:=hi
  have hin:i<ops.size:=by simpa using hin
  have hil:i<listed.size:=by omega
  have ho:ops[i]?=some ops[i]:=by simp[hin]
  generalize ops[i]=o at ho;rw[ho]at hcond;simp only[Option.map_some,Option.getD_some,Bool.and_eq_true,Bool.not_eq_true']at hcond;obtain⟨hDi,hedge⟩:=hcond
  have hDi:listed.getD i false=false:=by simp only[Array.getD,hil,dif_pos]at hDi ⊢;exact hDi
  rw[Array.all_eq_true']at hedge
  have hD':∀j,(listed.setIfInBounds i true).getD j false=if j=i then true else listed.getD j false:=fun j=>by
   by_cases hj:j=i
   ·subst hj;simp[Array.getD,hil]
   ·rw[if_neg hj,Array.getD_eq_getD_getElem?,Array.getD_eq_getD_getElem?,Array.getElem?_setIfInBounds_ne (Ne.symm hj)]
  have hclosed':eT ops (fun j=>(listed.setIfInBounds i true).getD j false):=fun j oj hoj hj e he hb=>by
   simp only[hD']at hj ⊢;by_cases hji:j=i
   ·subst hji;rw[ho]at hoj;cases hoj;have:=hedge e (by simpa using he);rw[hb]at this;simp at this;split
    ·rfl
    ·simpa using this
   ·rw[if_neg hji]at hj;split
    ·rfl
    ·exact hcl2 j oj hoj hj e he hb
  have before:∀j,j≠i→bef (aO [] ops.toList) j i=true→listed.getD j false=true:=fun j hji hb=>by
   have:=hmask _ hclosed' j i hin hb (by simp[hD']);simp only[hD',if_neg hji]at this;exact this
  have behind:∀j,j<ops.size→bef (aO [] ops.toList) i j=true→listed.getD j false=false:=fun j hj hb=>by
   cases hDj:listed.getD j false with
   | false=>rfl
   | true=>have:=hmask _ hcl2 i j hj hb hDj;rw[hDi]at this;cases this
  have hsel:∃j',(E j').length=(E jj).length∧(∀k e,(E j')[k]?=some e→(listed.getD e false=true↔k<c))∧s.H=Hs j' c∧FRel s (dN ops fr (val j') fun i=>listed.getD i false) a.tmps∧(i∈E j'→(E j')[c]?=some i):=by
   by_cases hiE:i∈E jj
   ·obtain⟨ki,hki⟩:=List.getElem?_of_mem hiE
    have hkc:c≤ki:=by
     rcases Nat.lt_or_ge ki c with h | h
     ·have:=(hpre ki i hki).2 h;rw[hDi]at this;cases this
     ·exact h
    have hin':i∈(E jj).drop c:=List.mem_of_getElem? (i:=ki-c) (by rw[List.getElem?_drop,Nat.add_sub_cancel' hkc];exact hki)
    have notl:∀e∈(E jj).drop c,listed.getD e false=false:=fun e he=>by
     obtain⟨k,hk⟩:=List.getElem?_of_mem he;rw[List.getElem?_drop]at hk
     cases hD:listed.getD e false with
     | false=>rfl
     | true=>have:=(hpre _ e hk).1 hD;omega
    obtain⟨j',h1,h2,h3,h4,h5⟩:=hsw jj c i hin' (fun e he hne=>by
     cases hb:bef (aO [] ops.toList) e i with
     | false=>rfl
     | true=>have:=before e hne hb;rw[notl e he]at this;cases this)
    refine⟨j',h1,fun k e hk=>?_,hH.trans h4.symm,?_,fun _=>h3⟩
    ·rcases Nat.lt_or_ge k c with hkc | hkc
     ·have hk2:(E jj)[k]?=some e:=by
       have e1:((E j').take c)[k]?=some e:=by rw[List.getElem?_take,if_pos hkc];exact hk
       rw[h2,List.getElem?_take,if_pos hkc]at e1;exact e1
      exact hpre k e hk2
     ·constructor
      ·intro hD;exfalso;have hmem:e∈E jj:=hperm jj j' e (List.mem_of_getElem? hk);obtain⟨k2,hk2⟩:=List.getElem?_of_mem hmem;have hlt:=(hpre k2 e hk2).1 hD
       have e1:((E jj).take c)[k2]?=some e:=by rw[List.getElem?_take,if_pos hlt];exact hk2
       rw[←h2,List.getElem?_take,if_pos hlt]at e1;have hk2l:=aE e1;have hkl:=aE hk
       have e2:(E j')[k2]=e:=by rw[List.getElem?_eq_getElem hk2l]at e1;exact Option.some.inj e1
       have e3:(E j')[k]=e:=by rw[List.getElem?_eq_getElem hkl]at hk;exact Option.some.inj hk
       have:=(List.getElem_inj (hnd j')).1 (e2.trans e3.symm);omega
      ·intro h;omega
    ·have hv:(dN ops fr (val j') fun i=>listed.getD i false)=(dN ops fr (val jj) fun i=>listed.getD i false):=by
      apply List.ext_getElem?;intro t;rw[dH,dH];refine nb (fun k hk=>?_) _
      refine h5 k fun e he=>⟨fun h=>?_,?_⟩
      ·subst h;rw[notl _ he]at hk;cases hk
      ·cases hb:bef (aO [] ops.toList) e k with
       | false=>rfl
       | true =>
        have hkl:k<ops.size:=by
         rcases Nat.lt_or_ge k ops.size with h | h
         ·exact h
         ·rw[Array.getD_eq_getD_getElem?,Array.getElem?_eq_none (by omega)]at hk;cases hk
        have:=hmask _ hcl2 e k hkl hb hk;rw[notl e he]at this;cases this
     rw[hv];exact hf
   ·exact⟨jj,rfl,hpre,hH,hf,fun h=>absurd h hiE⟩
  obtain⟨j',hj1,hj2,hj3,hj4,hj5⟩:=hsel;rw[←hj1]at hc;clear hpre hH hf;have hpre:=hj2;have hH:=hj3;have hf:=hj4;clear hj2 hj3 hj4 hj1;clear jj
  rename Bool=>jj
  have meets:∀t,t∈dI ops o→(∀j,j<i→(ops[j]?).bind (·.dst)=some t→listed.getD j false=true)∧(∀j,i<j→(ops[j]?).bind (·.dst)=some t→listed.getD j false=false):=fun t ht=>by
   refine⟨fun j hj hdst=>?_,fun j hj hdst=>?_⟩
   ·cases hoj:ops[j]? with
    | none=>rw[hoj]at hdst;simp at hdst
    | some oj =>
     rw[hoj]at hdst
     rcases htmp i j o oj t ho hoj ht (by simpa using hdst) with h | h | h
     ·omega
     ·exact before j (by omega) h.2
     ·omega
   ·cases hoj:ops[j]? with
    | none=>rw[hoj]at hdst;simp at hdst
    | some oj =>
     rw[hoj]at hdst
     rcases htmp i j o oj t ho hoj ht (by simpa using hdst) with h | h | h
     ·omega
     ·omega
     ·exact behind j (Array.getElem?_eq_some_iff.1 hoj).1 h.2
  have agree:∀t,t∈dI ops o→(dN ops fr (val jj) fun i=>listed.getD i false)[t]?=(al ops fr (val jj) i)[t]?:=fun t ht=>by
   rw[dH,eO];refine dQ (meets t ht).1 (fun j hj hdst=>?_) ops.size (by omega);by_cases hji:j=i
   ·subst hji;exact hDi
   ·exact(meets t ht).2 j (by omega) hdst
  have hop:∀x∈o.op.operands,aU (dN ops fr (val jj) fun i=>listed.getD i false) x=aU (al ops fr (val jj) i) x:=fun x hx=>by
   refine nt fun t e=>agree t ?_
   subst e;simp only[dI,Oper.looksAt,List.mem_append,List.mem_filterMap];exact .inl (.inl ⟨.tmp t,by simpa using hx,rfl⟩)
  have hwant:bR ops (dN ops fr (val jj) fun i=>listed.getD i false) o=bR ops (al ops fr (val jj) i) o:=by
   unfold bR
   cases hgd:o.guard with
   | none=>rfl
   | some g =>
    obtain⟨j,want⟩:=g;simp only
    cases hoj:ops[j]? with
    | none=>rfl
    | some oj =>
     simp only
     cases hdj:oj.dst with
     | none=>rfl
     | some d =>
      simp only;rw[agree d (by simp[dI,Oper.looksAt,hgd,hoj,hdj])]
  have next:∀{s1:St} {u:Value} {c':Nat},Good s1→Step s s1→Rel s1 ((val jj) i) u→c'≤(E jj).length→s1.H=(Hs jj) c'→(∀k e,(E jj)[k]?=some e→((listed.setIfInBounds i true).getD e false=true↔k<c'))→
    wpAny P .any ops Q fuel (listed.setIfInBounds i true) (a.put o.dst u) s1.w:=fun {s1 u c'} g1 g2 g3 g4 g5 g6=>by
   refine ih _ s1 _ jj c' (by simp[hsz]) hclosed' ?_ g4 g6 g1 (hs.trans g2) g5 ?_ (by rw[kn];exact hd)
   ·have:=jf (p:=fun j=>!(listed.getD j false)) (q:=fun j=>!((listed.setIfInBounds i true).getD j false)) (i:=i) (by simp only[hDi];rfl) (by simp[hD']) (fun j hj=>by
     simp only[hD']at hj;split at hj
     ·simp at hj
     ·exact hj) (l:=List.range ops.size) (by simpa using hin)
    omega
   ·have hnow:(dN ops fr (val jj) fun j=>(listed.setIfInBounds i true).getD j false)=bJ (dN ops fr (val jj) fun j=>listed.getD j false) o.dst ((val jj) i):=by
     apply List.ext_getElem?;intro t;rw[dH]
     cases hdst:(o.dst:Option Nat) with
     | none =>
      simp only[bJ];rw[dH];refine eI (fun j hj=>?_) _;simp only[hD'];split
      ·rename_i hji;subst hji;rw[ho]at hj;simp[hdst]at hj
      ·rfl
     | some d =>
      simp only[bJ]
      have hlen:(dN ops fr (val jj) fun j=>listed.getD j false).length=fr.length:=by simp[dN]
      by_cases hdt:d=t
      ·subst hdt;have hm:=meets d (by simp[dI,hdst])
       have e1:=dQ (fr:=fr) (val:=val jj) (D:=fun j=>(listed.setIfInBounds i true).getD j false) (i:=i+1) (t:=d) (fun j hj hdj=>by
        simp only[hD'];split
        ·rfl
        ·exact hm.1 j (by omega) hdj) (fun j hj hdj=>by
        simp only[hD'];rw[if_neg (by omega)]
        exact hm.2 j (by omega) hdj) ops.size (by omega)
       rw[e1];simp only[bh];by_cases hlt:d<fr.length
       ·rw[if_pos ⟨trivial,by rw[ho];simpa using hdst,hlt⟩,List.getElem?_set_self (by rw[hlen];exact hlt)]
       ·rw[if_neg (by simp[hlt]),List.getElem?_set,if_pos rfl,if_neg (by rw[hlen];exact hlt)];have:=gW (ops:=ops) (fr:=fr) (val:=val jj) (D:=fun _=>true) i d
        cases h:bh ops fr (val jj) (fun _=>true) i d with
        | none=>rfl
        | some v=>rw[h]at this;simp[hlt]at this
      ·rw[List.getElem?_set_ne hdt,dH];refine eI (fun j hj=>?_) _;simp only[hD'];split
       ·rename_i hji;subst hji;rw[ho]at hj;simp[hdst]at hj;exact absurd hj hdt
       ·rfl
    rw[hnow];exact(hf.step g2).put g3 o.dst
  have sameE:i∉(E jj)→∀k e,(E jj)[k]?=some e→((listed.setIfInBounds i true).getD e false=true↔k<c):=fun hiE k e he=>by
   rw[hD',if_neg (fun h:e=i=>hiE (by rw[←h];exact List.mem_of_getElem? he))];exact hpre k e he
  have hpos:i∉(E jj)→im (aO [] ops.toList) (E jj) i c=true:=fun hiE=>by
   simp only[im,List.all_eq_true,List.mem_range];intro k hk;have he:(E jj)[k]?=some (E jj)[k]:=List.getElem?_eq_getElem hk;rw[he];simp only;split
   ·rename_i hkc;have hD:=(hpre k _ he).2 hkc
    cases hb:bef (aO [] ops.toList) i (E jj)[k] with
    | false=>rfl
    | true=>have:=behind _ (hE jj _ (List.getElem_mem hk)) hb;rw[hD]at this;cases this
   ·rename_i hkc
    cases hb:bef (aO [] ops.toList) (E jj)[k] i with
    | false=>rfl
    | true =>
     have:=before _ (fun h=>hiE (h▸List.getElem_mem hk)) hb;exact absurd ((hpre k _ he).1 this) hkc
  have eff:i∈E jj→(E jj).idxOf i=c∧(∀k' e,(E jj)[k']?=some e→((listed.setIfInBounds i true).getD e false=true↔k'<c+1))∧c+1≤(E jj).length:=fun hiE=>by
   have hk:=hj5 hiE;have hkl:=aE hk
   have hidx:(E jj).idxOf i=c:=by
    have h1:=List.idxOf_lt_length_of_mem hiE
    have h2:(E jj)[(E jj).idxOf i]=i:=by simp
    have h3:(E jj)[c]=i:=by rw[List.getElem?_eq_getElem hkl]at hk;exact Option.some.inj hk
    exact(List.getElem_inj (hnd jj)).1 (h2.trans h3.symm)
   refine⟨hidx,fun k' e he=>?_,by omega⟩;rw[hD'];by_cases hei:e=i
   ·subst hei;have hkl':=aE he
    have h2:(E jj)[k']=e:=by rw[List.getElem?_eq_getElem hkl']at he;exact Option.some.inj he
    have h3:(E jj)[c]=e:=by rw[List.getElem?_eq_getElem hkl]at hk;exact Option.some.inj hk
    have:=(List.getElem_inj (hnd jj)).1 (h2.trans h3.symm);simp;omega
   ·rw[if_neg hei,hpre k' e he];constructor
    ·omega
    ·intro h
     rcases Nat.lt_or_ge k' c with h' | h'
     ·exact h'
     ·exfalso
      have hk'c:k'=c:=by omega
      subst hk'c;rw[hk]at he;cases he;exact hei rfl
  have hclause:=hcl jj i o ho;unfold gS at hclause;rw[←hwant]at hclause;unfold wpOp;rw[ho];simp only;split at hclause
  ·
   rename_i hw;rw[eZ hf hw];simp only[Bool.false_eq_true,if_false]
   have hiE:i∉(E jj):=by simpa using hclause.2
   exact next hg (Step.refl s) (by rw[hclause.1];exact .tup [] #[] rfl (by simp)) hc hH (sameE hiE)
  ·rename_i hw;rw[eZ hf hw];simp only[if_true];left;split at hclause
   ·
    rename_i f args hcall
    have hin2:f∈o.op.operands∧∀x∈args,x∈o.op.operands:=by
     unfold bE at hcall;split at hcall
     ·rename_i cc hoc;split at hcall
      ·rename_i f' hcal;cases hcall;rw[hoc];simp only[Op.operands,Call.operands,hcal];exact⟨by simp,fun x hx=>by simp;exact .inr (by simpa using hx)⟩
      ·cases hcall
     ·cases hcall
    have hf1:aU (al ops fr (val jj) i) f=aU (dN ops fr (val jj) fun i=>listed.getD i false) f:=(hop f hin2.1).symm
    have hf2:args.map (aU (al ops fr (val jj) i))=args.map (aU (dN ops fr (val jj) fun i=>listed.getD i false)):=List.map_congr_left fun x hx=>(hop x (hin2.2 x hx)).symm
    split at hclause
    ·rename_i hEi
     have hiE:i∈(E jj):=by simpa using hEi
     obtain⟨hidx,hpre',hcE⟩:=eff hiE;have hcc:=hclause;rw[hidx,←hH]at hcc;rw[hf1,hf2]at hcc;refine gP hcall (hz0.step hs) hg hf hcc (fun u s1 r g1 g2 g3 g4=>?_);obtain⟨rfl,g5⟩:=g4;exact next g1 g2 g3 hcE g5 hpre'
    ·rename_i hEi
     have hiE:i∉(E jj):=by simpa using hEi
     have hcc:=dM hclause c (by simp;omega);rw[if_pos (hpos hiE),←hH]at hcc;rw[hf1,hf2]at hcc;refine gP hcall (hz0.step hs) hg hf hcc (fun u s1 r g1 g2 g3 g4=>?_);obtain⟨rfl,g5⟩:=g4;exact next g1 g2 g3 hc (g5.trans hH) (sameE hiE)
   ·split at hclause
    ·
     rename_i hEi
     have hiE:i∈(E jj):=by simpa using hEi
     obtain⟨hidx,hpre',hcE⟩:=eff hiE;rw[hidx,←kQ (ρ:=aU (dN ops fr (val jj) fun i=>listed.getD i false)) hop,←hH]at hclause;obtain⟨nx,s1,k1,k2,k3,k4,k5⟩:=iZ (P:=P) hT hg (fun x=>hf.eval x) hclause;unfold Oper.wp;rw[k1]
     rcases k5 with⟨u,rfl,hr⟩ | ⟨rfl,hv⟩
     ·rw[Oper.upon_value];exact next k3 k4 hr hcE k2 hpre'
     ·rw[Oper.upon_skip];exact next k3 k4 (by rw[hv];exact .tup [] #[] rfl (by simp)) hcE k2 hpre'
    ·rename_i hEi
     have hiE:i∉(E jj):=by simpa using hEi
     have hcc:=dM hclause c (by simp;omega);rw[if_pos (hpos hiE),←kQ (ρ:=aU (dN ops fr (val jj) fun i=>listed.getD i false)) hop,←hH]at hcc;obtain⟨nx,s1,k1,k2,k3,k4,k5⟩:=iZ (P:=P) hT hg (fun x=>hf.eval x) hcc;unfold Oper.wp;rw[k1]
     rcases k5 with⟨u,rfl,hr⟩ | ⟨rfl,hv⟩
     ·rw[Oper.upon_value];exact next k3 k4 hr hc (k2.trans hH) (sameE hiE)
     ·rw[Oper.upon_skip];exact next k3 k4 (by rw[hv];exact .tup [] #[] rfl (by simp)) hc (k2.trans hH) (sameE hiE)
  ·exact hclause.elim
end
def obl2(T:Ty)(ops:Array Oper)(n:Nat)(E1 E2 D:List Nat)(H1 H2:Nat→List B)(K:List V→List B→Prop):List Oper→Nat→List V→List V→Prop
 | [],_,f1,f2=>K f1 (H1 n)∧K f2 (H2 n)
 | o::rest,i,f1,f2 =>
  if E1.contains i=true then
   (match aop T o.op (aU f1) (H1 (E1.idxOf i)),aop T o.op (aU f2) (H2 (E2.idxOf i)) with
    | some (v1,G1),some (v2,G2)=>(G1=H1 (E1.idxOf i+1)∧G2=H2 (E2.idxOf i+1))∧obl2 T ops n E1 E2 D H1 H2 K rest (i+1) (bJ f1 o.dst v1) (bJ f2 o.dst v2)
    | _,_=>False)
  else(match aop T o.op (aU f1) (H1 0),aop T o.op (aU f2) (H2 0) with
    | some (v1,G1),some (v2,G2)=>((if dz o.op=true then True else fK (fun c=>aop T o.op (aU f1) (H1 c)=some (v1,H1 c)∧aop T o.op (aU f2) (H2 c)=some (v2,H2 c)) (List.range (n+1)))∧(if D.contains i=true then True else v1=v2))∧obl2 T ops n E1 E2 D H1 H2 K rest (i+1) (bJ f1 o.dst v1) (bJ f2 o.dst v2)
    | _,_=>False)
def stat2K(ops:Array Oper)(E1 E2 D:List Nat):Bool :=
 let ms:=aO [] ops.toList
 ic ops []&&(E1.length == E2.length&&(decide E1.Nodup&&(decide E2.Nodup&&(E1.all (fun e=>E2.contains e&&decide (e<ops.size))&&(E2.all (fun e=>E1.contains e) &&
  ((List.range ops.size).all (fun i=>(match ops[i]? with
    | some o=>o.guard.isNone&&((bE o.op).isNone&&(E1.contains i||bm o.op))
    | none=>true)&&(!D.contains i||E1.any fun e=>i == e||bef ms e i)) &&
  ([(E1,E2),(E2,E1)].all fun p=>(List.range (E1.length+1)).all fun c=>(p.1.drop c).all fun i =>
   (!((p.1.drop c).all fun e=>e == i||!bef ms e i))||(p.1[c]? == some i||(c == 0&&p.2[0]? == some i)))))))))
section
variable {P:Program} {T:Ty}
def Out2(T:Ty)(ops:Array Oper)(n:Nat)(E1 E2 D:List Nat)(H1 H2:Nat→List B)(K:List V→List B→Prop)(C:V→List V→List B→(V→List B→Prop)→Prop)(l:List Oper)(i:Nat)(f1 f2:List V):Prop :=
 ∃vs1 vs2 g1 g2,vs1.length=l.length∧vs2.length=l.length∧bu T ops C (aO [] ops.toList) E1 H1 l i f1 vs1∧bu T ops C (aO [] ops.toList) E2 H2 l i f2 vs2 ∧
    (∀(val:Nat→V) (fr0:List V),(∀k,k<vs1.length→vs1[k]?=some (val (i+k)))→f1=al ops fr0 val i→g1=al ops fr0 val ops.size)∧
    (∀(val:Nat→V) (fr0:List V),(∀k,k<vs2.length→vs2[k]?=some (val (i+k)))→f2=al ops fr0 val i→g2=al ops fr0 val ops.size)∧
    (∀k,k<l.length→D.contains (i+k)=false→E1.contains (i+k)=false→vs1[k]?=vs2[k]?)∧K g1 (H1 n)∧K g2 (H2 n)
theorem obl2_ok{ops:Array Oper}{n:Nat}{E1 E2 D:List Nat}{H1 H2:Nat→List B}{K:List V→List B→Prop}{C:V→List V→List B→(V→List B→Prop)→Prop}
  (hl1:E1.length=n) (hl2:E2.length=n) (hmem:∀i,E1.contains i=E2.contains i)
  (hst:∀i o,ops[i]?=some o→o.guard=none∧bE o.op=none∧(E1.contains i=false→bm o.op=true)):
  ∀(l:List Oper) (i:Nat) (f1 f2:List V),l=ops.toList.drop i→obl2 T ops n E1 E2 D H1 H2 K l i f1 f2 →
   Out2 T ops n E1 E2 D H1 H2 K C l i f1 f2
 | [],i,f1,f2,hl,h=>by
  have hi:ops.size≤i:=by
   have:=congrArg List.length hl;simp at this;omega
  have hfr:∀(val:Nat→V) (fr0:List V),∀d,al ops fr0 val (ops.size+d)=al ops fr0 val ops.size:=fun val fr0 d=>by
   induction d with
   | zero=>rfl
   | succ d ih =>
    rw[show ops.size+(d+1)=(ops.size+d)+1 by omega,al,Array.getElem?_eq_none (by omega)];exact ih
  obtain⟨d,rfl⟩:=Nat.exists_eq_add_of_le hi;exact⟨[],[],f1,f2,rfl,rfl,trivial,trivial,fun val fr0 _ h=>by rw[h,hfr],fun val fr0 _ h=>by rw[h,hfr],fun k hk=>by simp at hk,h.1,h.2⟩
 | o::rest,i,f1,f2,hl,h=>by
  have ho:ops[i]?=some o:=by
   have:=congrArg (fun l=>l[0]?) hl;simp at this;exact this.symm
  have hrest:rest=ops.toList.drop (i+1):=by
   have:=congrArg List.tail hl;simpa using this
  obtain⟨hg,hc,hs⟩:=hst i o ho
  have hw:∀f,bR ops f o=some true:=fun f=>by unfold bR;rw[hg]
  have fin:∀v1 v2,gS T ops C (aO [] ops.toList) E1 H1 o i f1 v1→gS T ops C (aO [] ops.toList) E2 H2 o i f2 v2→(D.contains i=false→E1.contains i=false→v1=v2)→
    obl2 T ops n E1 E2 D H1 H2 K rest (i+1) (bJ f1 o.dst v1) (bJ f2 o.dst v2)→Out2 T ops n E1 E2 D H1 H2 K C (o::rest) i f1 f2:=fun v1 v2 c1 c2 hd hr=>by
   obtain⟨vs1,vs2,g1,g2,a1,a2,a3,a4,a5,a6,a7,a8,a9⟩:=obl2_ok (C:=C) hl1 hl2 hmem hst rest (i+1) _ _ hrest hr
   have fr:∀(f:List V) (v:V) (vs:List V) (g:List V),(∀(val:Nat→V) (fr0:List V),(∀k,k<vs.length→vs[k]?=some (val (i+1+k)))→bJ f o.dst v=al ops fr0 val (i+1)→g=al ops fr0 val ops.size)→
     ∀(val:Nat→V) (fr0:List V),(∀k,k<(v::vs).length→(v::vs)[k]?=some (val (i+k)))→f=al ops fr0 val i→g=al ops fr0 val ops.size:=fun f v vs g hh val fr0 hv hf=>by
    have hv0:v=val i:=by have:=hv 0 (by simp);simpa using this
    refine hh val fr0 (fun k hk=>?_) ?_
    ·have:=hv (k+1) (by simp;omega);rw[List.getElem?_cons_succ]at this;rw[this,show i+(k+1)=i+1+k by omega]
    ·rw[al,ho,hv0,hf]
   refine⟨v1::vs1,v2::vs2,g1,g2,by simp[a1],by simp[a2],⟨c1,a3⟩,⟨c2,a4⟩,fr f1 v1 vs1 g1 a5,fr f2 v2 vs2 g2 a6,fun k hk hD hE=>?_,a8,a9⟩
   cases k with
   | zero=>simp only[Nat.add_zero]at hD hE;simp[hd hD hE]
   | succ k =>
    rw[List.getElem?_cons_succ,List.getElem?_cons_succ];exact a7 k (by simpa using hk) (by rw[show i+1+k=i+(k+1) by omega];exact hD) (by rw[show i+1+k=i+(k+1) by omega];exact hE)
  unfold obl2 at h;split at h
  ·rename_i hE;split at h
   ·rename_i v1 G1 v2 G2 q1 q2;obtain⟨⟨rfl,rfl⟩,hr⟩:=h;refine fin v1 v2 ?_ ?_ (fun _ hE'=>by rw[hE]at hE';cases hE') hr
    ·unfold gS;simp only[hw,hc,hE,if_true];exact q1
    ·unfold gS;simp only[hw,hc,hmem i▸hE,if_true];exact q2
   ·exact h.elim
  ·rename_i hE
   have hE:E1.contains i=false:=by simpa using hE
   have hE2:E2.contains i=false:=hmem i▸hE;split at h
   ·rename_i v1 G1 v2 G2 q1 q2;obtain⟨⟨hall,hd⟩,hr⟩:=h
    have each:∀c,c<n+1→aop T o.op (aU f1) (H1 c)=some (v1,H1 c)∧aop T o.op (aU f2) (H2 c)=some (v2,H2 c):=fun c hcl=>by
     split at hall
     ·rename_i hsc;exact⟨jx hsc q1 _,jx hsc q2 _⟩
     ·exact dM hall c (by simpa using hcl)
    refine fin v1 v2 ?_ ?_ (fun hD _=>?_) hr
    ·unfold gS;simp only[hw,hc,hE,Bool.false_eq_true,if_false]
     refine kF.allC_of fun c hcm=>?_
     split
     ·exact(each c (by rw[hl1]at hcm;simpa using hcm)).1
     ·trivial
    ·unfold gS;simp only[hw,hc,hE2,Bool.false_eq_true,if_false]
     refine kF.allC_of fun c hcm=>?_
     split
     ·exact(each c (by rw[hl2]at hcm;simpa using hcm)).2
     ·trivial
    ·rw[hD]at hd;simpa using hd
   ·exact h.elim
theorem W_draw2(hT:TOk P T)(hm:P.follows .mixedOrders=true){id:Nat}{ops:Array Oper}{Q:Exit→List V→List B→Prop}{fr:List V}{H:List B}(E1 E2 D:List Nat)(hs1 hs2:List (List B))(hst:stat2K ops E1 E2 D=true)
  (h:∀(K:List V→List B→Prop),(∀fr H,Q .normal fr H→K fr H)→obl2 T ops E1.length E1 E2 D (fun c=>((H::hs1)[c]?).getD []) (fun c=>((H::hs2)[c]?).getD []) K ops.toList 0 fr fr):W P (.region id ops true) Q fr H:=by
 intro s a hH hg hf hd;obtain⟨rfl,hz0⟩:=hH;have hob:=h (Q .normal) (fun _ _ h=>h);simp only[stat2K,Bool.and_eq_true,beq_iff_eq,decide_eq_true_eq]at hst;obtain⟨t1,t2,t3,t4,t5,t6,t7,t8⟩:=hst
 have m12:∀e∈E1,e∈E2∧e<ops.size:=fun e he=>by have:=List.all_eq_true.1 t5 e he;simpa using this
 have m21:∀e∈E2,e∈E1:=fun e he=>by have:=List.all_eq_true.1 t6 e he;simpa using this
 have hmem:∀i,E1.contains i=E2.contains i:=fun i=>by
  rw[Bool.eq_iff_iff,List.contains_iff_mem,List.contains_iff_mem];exact⟨fun h=>(m12 i h).1,m21 i⟩
 have hops:∀i o,ops[i]?=some o→(o.guard=none∧bE o.op=none∧(E1.contains i=false→bm o.op=true))∧(D.contains i=true→∃e∈E1,i=e∨bef (aO [] ops.toList) e i=true):=fun i o ho=>by
  have hil:=(Array.getElem?_eq_some_iff.1 ho).1;have:=List.all_eq_true.1 t7 i (by simpa using hil);rw[ho]at this;simp only[Bool.and_eq_true,Bool.or_eq_true,Option.isNone_iff_eq_none,Bool.not_eq_true',List.any_eq_true,beq_iff_eq]at this;obtain⟨⟨g1,g2,g3⟩,g4⟩:=this;exact⟨⟨g1,g2,fun hE=>by rcases g3 with g3 | g3;rw[hE]at g3;cases g3;exact g3⟩,fun hD=>by rcases g4 with g4 | g4;rw[hD]at g4;cases g4;exact g4⟩
 obtain⟨vs1,vs2,g1,g2,a1,a2,a3,a4,a5,a6,a7,a8,a9⟩:=obl2_ok (C:=aT P) rfl t2.symm hmem (fun i o ho=>(hops i o ho).1) ops.toList 0 fr fr (by simp) hob
 let val:Bool→Nat→V:=fun b i=>((cond b vs1 vs2)[i]?).getD .undef
 have hv1:∀k,k<vs1.length→vs1[k]?=some (val true (0+k)):=fun k hk=>by simp[val,hk]
 have hv2:∀k,k<vs2.length→vs2[k]?=some (val false (0+k)):=fun k hk=>by simp[val,hk]
 have hc1:=obl_at (fr0:=fr) (val:=val true) ops.toList 0 vs1 (by simp) hv1 a3;have hc2:=obl_at (fr0:=fr) (val:=val false) ops.toList 0 vs2 (by simp) hv2 a4;have hg1:=a5 (val true) fr hv1 rfl;have hg2:=a6 (val false) fr hv2 rfl;refine wp_region_any hm ?_;obtain⟨d1,d2⟩:=fZ hg (w:={ s.w with drawn:=s.w.drawn+1 }) rfl rfl rfl (Nat.le_refl _) (fun _ _=>rfl)
 have hget:∀j,(Array.replicate ops.size false).getD j false=false:=fun j=>by
  rw[Array.getD_eq_getD_getElem?,Array.getElem?_replicate];split<;>rfl
 have hnow:dN ops fr (val true) (fun i=>(Array.replicate ops.size false).getD i false)=fr:=by
  apply List.ext_getElem?;intro t;rw[dH];exact dQ (i:=0) (fun j hj=>absurd hj (by omega)) (fun j _ _=>hget j) ops.size (Nat.zero_le _)
 refine drawJ_sound hT hz0 (s0:=s) (E:=fun b=>cond b E1 E2) (val:=val) (Hs:=fun b c=>((s.H::cond b hs1 hs2)[c]?).getD []) t1 ?_ ?_ ?_ ?_ ?_ ?_ ops.size _ (s.at _) a true 0 (by simp) (fun j o _ hj=>by simp only[hget]at hj;cases hj) ?_ (Nat.zero_le _) (fun k e _=>by rw[hget];simp) d1 d2 rfl (by rw[hnow];exact hf.step d2) hd
 ·intro j e he
  cases j with
  | true=>exact(m12 e he).2
  | false=>exact(m12 e (m21 e he)).2
 ·intro j
  cases j with
  | true=>exact t3
  | false=>exact t4
 ·intro j j' e he
  cases j<;>cases j'<;>first | exact he | exact(m12 e he).1 | exact m21 e he
 ·intro j c i hi hbef
  have hcl:c<(cond j E1 E2).length:=by
   have:=List.length_pos_of_mem hi;rw[List.length_drop]at this;omega
  have hlen:(cond j E1 E2).length=E1.length:=by cases j;exact t2.symm;rfl
  have hpair:(cond j E1 E2,cond j E2 E1)∈[(E1,E2),(E2,E1)]:=by cases j<;>simp
  have q:=List.all_eq_true.1 (List.all_eq_true.1 (List.all_eq_true.1 t8 _ hpair) c (by simp;omega)) i hi;simp only[Bool.or_eq_true,Bool.not_eq_true',Bool.and_eq_true,beq_iff_eq]at q
  rcases q with q | q | ⟨rfl,q⟩
  ·exfalso;rw[Bool.eq_false_iff]at q;refine q (List.all_eq_true.2 fun e he=>?_);by_cases hei:e=i
   ·simp[hei]
   ·rw[hbef e he hei];simp
  ·exact⟨j,rfl,rfl,q,rfl,fun _ _=>rfl⟩
  ·refine⟨!j,?_,rfl,?_,?_,fun k hk=>?_⟩
   ·cases j;exact t2;exact t2.symm
   ·cases j<;>exact q
   ·cases j<;>rfl
   ·have hind:∀e∈E1,k≠e∧bef (aO [] ops.toList) e k=false:=fun e he=>hk e (by
     cases j with
     | true=>simpa using he
     | false=>simpa using(m12 e he).1)
    by_cases hkl:k<ops.size
    ·have ho:ops[k]?=some ops[k]:=by simp[hkl]
     have hD:D.contains k=false:=by
      cases hDk:D.contains k with
      | false=>rfl
      | true =>
       obtain⟨e,he,hx⟩:=(hops k _ ho).2 hDk
       rcases hx with hx | hx
       ·exact absurd hx (hind e he).1
       ·rw[(hind e he).2]at hx;cases hx
     have hE:E1.contains k=false:=by
      rw[Bool.eq_false_iff,ne_eq,List.contains_iff_mem]
      exact fun hh=>(hind k hh).1 rfl
     have:=a7 k (by simpa using hkl) (by rw[Nat.zero_add];exact hD) (by rw[Nat.zero_add];exact hE);cases j<;>simp only[val,cond_true,cond_false,Bool.not_true,Bool.not_false,this]
    ·have e1:vs1[k]?=none:=List.getElem?_eq_none (by rw[a1];simpa using Nat.le_of_not_lt hkl);have e2:vs2[k]?=none:=List.getElem?_eq_none (by rw[a2];simpa using Nat.le_of_not_lt hkl);cases j<;>simp only[val,cond_true,cond_false,Bool.not_true,Bool.not_false,e1,e2]
 ·intro j i o ho
  cases j with
  | true=>exact hc1 i o (Nat.zero_le _) ho
  | false=>exact hc2 i o (Nat.zero_le _) ho
 ·intro j s' a' k1 k2 k3 k4 k5
  cases j with
  | true=>exact⟨g1,s',rfl,k1,k2,by rw[hg1];exact k3,k4,by rw[k5];exact a8⟩
  | false=>exact⟨g2,s',rfl,k1,k2,by rw[hg2];exact k3,k4,by rw[k5];show Q .normal g2 (((s.H::hs2)[E2.length]?).getD []);rw[←t2];exact a9⟩
 ·exact Nat.le_trans (List.length_filter_le _ _) (by simp)
end
attribute [simp] obl2
end
end
end Go.AM
namespace Go.Proofs.YteijbpppalhihaaGreat
section
open Go Go.AM
section
structure En where
 v:Vl
 s:Int
def bX(x:En):V:=.agg [.int .i64 x.v.k,.int .i64 x.v.n,.str x.v.s,.int .i64 x.s]
@[simp] theorem encEn_pure (x:En):AM.Pure (bX x):=by simp[bX]
@[simp] theorem encEn_oneV (x:En):dm (bX x)=true:=rfl
theorem ba_beq(c c':ByteArray):(c == c')=true↔c=c':=by
 obtain⟨a⟩:=c;obtain⟨b⟩:=c';show ByteArray.beq ⟨a⟩ ⟨b⟩=true↔_;simp[ByteArray.beq]
def nu(x y:En):Bool:=(x.v.k == y.v.k&&(x.v.n == y.v.n&&(x.v.s == y.v.s)))&&x.s == y.s
theorem eB(x y:En):nu x y=true↔x=y:=by
 unfold nu;obtain⟨⟨a,b,c⟩,d⟩:=x;obtain⟨⟨a',b',c'⟩,d'⟩:=y;simp[and_assoc,ba_beq]
theorem kW(H:List B)(k n s:Int)(t:ByteArray)(k' n' s':Int)(t':ByteArray):gT T H 117 (.agg [.int .i64 k,.int .i64 n,.str t,.int .i64 s]) (.agg [.int .i64 k',.int .i64 n',.str t',.int .i64 s'])=some (nu ⟨⟨k,n,t⟩,s⟩ ⟨⟨k',n',t'⟩,s'⟩):=by
 have h1:∀x y:Int,eqD T 9998 2 (.int .i64 x) (.int .i64 y)=some (x == y):=fun x y=>by simp[eqD]
 have h2:∀x y:Int,eqD T 9998 3 (.int .i64 x) (.int .i64 y)=some (x == y):=fun x y=>by simp[eqD]
 have h2':∀x y:Int,eqD T 9999 3 (.int .i64 x) (.int .i64 y)=some (x == y):=fun x y=>by simp[eqD]
 have h3:∀x y:ByteArray,eqD T 9998 9 (.str x) (.str y)=some (x == y):=fun x y=>by simp[eqD]
 have h4:eqD T 9999 68 (.agg [.int .i64 k,.int .i64 n,.str t]) (.agg [.int .i64 k',.int .i64 n',.str t'])=some (k == k'&&(n == n'&&(t == t'))):=by
  rw[show(9999:Nat)=9998+1 from rfl,eqD];simp only[T_68];simp only[if_true,eqFs,jn,T_2,T_3,T_9,db,List.getElem?_cons_zero,List.getElem?_cons_succ,Bool.false_eq_true,if_false,h1,h2,h3];cases (k == k')<;>cases (n == n')<;>cases (t == t')<;>simp
 simp only[gT];rw[show(10000:Nat)=9999+1 from rfl,eqD];simp only[T_117];simp only[if_true,eqFs,jn,T_3,T_68,db,List.length_cons,List.length_nil,List.drop,List.take,List.getElem?_cons_zero,List.getElem?_cons_succ,Bool.false_eq_true,if_false];simp[h4,h2',nu];cases (k == k')<;>cases (n == n')<;>cases (t == t')<;>cases (s == s')<;>simp
def dR(e:Nat→En)(n i:Nat):List V:=(List.range n).map fun a=>bX (e (i*n+a))
def eh(b m n:Nat):List V:=(List.range m).map fun i=>.buf (b+i) 0 n n
theorem cM(e:Nat→En)(n i:Nat):(dR e n i).length=n:=by simp[dR]
theorem eL(b m n:Nat):(eh b m n).length=m:=by simp[eh]
theorem eJ{e:Nat→En}{n i a:Nat}(h:a<(dR e n i).length):(dR e n i)[a]=bX (e (i*n+a)):=by simp[dR]
theorem iL{b m n i:Nat}(h:i<(eh b m n).length):(eh b m n)[i] = .buf (b+i) 0 n n:=by simp[eh]
theorem iI(e:Nat→En)(n i:Nat):∀x∈dR e n i,AM.Pure x∧dm x=true:=by
 intro x hx;obtain⟨a,_,rfl⟩:=List.mem_map.1 hx;exact⟨encEn_pure _,rfl⟩
def He(H:List B)(b m n:Nat)(e:Nat→En):List B:=(List.range H.length).map fun k=>if b≤k∧k<b+m then .buf 117 4 (dR e n (k-b)) false else(H[k]?).getD (.cells [])
structure EOk (H:List B) (ko b m n:Nat):Prop where
 ho:H[ko]?=some (.buf 115 1 (eh b m n) false)
 lt:b+m≤H.length
 no:ko<b
 rb:∀bl∈H,rbB H.length bl
theorem cO(H:List B)(b m n:Nat)(e:Nat→En):(He H b m n e).length=H.length:=by simp[He]
theorem gw{H:List B}{ko b m n:Nat}(g:EOk H ko b m n)(e:Nat→En){i:Nat}(hi:i<m):(He H b m n e)[b+i]?=some (.buf 117 4 (dR e n i) false):=by
 have:=g.lt;unfold He;rw[List.getElem?_map,List.getElem?_range (by omega),Option.map_some,if_pos (by omega),Nat.add_sub_cancel_left]
theorem pt{H:List B}{b m n:Nat}(e:Nat→En){k:Nat}{x:B}(h:H[k]?=some x)(hk:k<b∨b+m≤k):(He H b m n e)[k]?=some x:=by
 have:=aE h;unfold He;rw[List.getElem?_map,List.getElem?_range (by omega),Option.map_some,if_neg (by omega),h];rfl
theorem pq{H:List B}{ko b m n:Nat}(g:EOk H ko b m n)(e:Nat→En):(He H b m n e)[ko]?=some (.buf 115 1 (eh b m n) false):=pt e g.ho (.inl g.no)
theorem he_set{H:List B}{ko b m n:Nat}(g:EOk H ko b m n)(e e':Nat→En){i:Nat}(hi:i<m)(h:∀k a,k<m→a<n→k≠i→e' (k*n+a)=e (k*n+a)):(He H b m n e).set (b+i) (.buf 117 4 (dR e' n i) false)=He H b m n e':=by
 have:=g.lt;apply List.ext_getElem?;intro k;by_cases hk:k=b+i
 ·subst hk;rw[List.getElem?_set_self (by rw[cO];omega),gw g e' hi]
 ·rw[List.getElem?_set_ne (Ne.symm hk)];unfold He;rw[List.getElem?_map,List.getElem?_map];by_cases hkl:k<H.length
  ·rw[List.getElem?_range hkl,Option.map_some,Option.map_some];congr 1;split
   ·rename_i hc;congr 1;unfold dR
    refine List.map_congr_left fun a ha=>?_
    rw[h (k-b) a (by omega) (by simpa using ha) (by omega)]
   ·rfl
  ·rw[List.getElem?_eq_none (by simp;omega)];rfl
theorem he_congr(H:List B)(b m n:Nat){e e':Nat→En}(h:∀x,x<m*n→e x=e' x):He H b m n e=He H b m n e':=by
 unfold He
 refine List.map_congr_left fun k _=>?_
 split
 ·rename_i hc;congr 1;unfold dR
  refine List.map_congr_left fun a ha=>?_
  rw[h _ (aq (by omega) (by simpa using ha))]
 ·rfl
theorem dc{H:List B}{ko b m n:Nat}(g:EOk H ko b m n)(G:List B)(e:Nat→En):He H b m n e++G=He (H++G) b m n e:=by
 have:=g.lt;apply List.ext_getElem?;intro k;by_cases hk:k<H.length
 ·rw[List.getElem?_append_left (by rw[cO];exact hk)];unfold He;rw[List.getElem?_map,List.getElem?_map,List.getElem?_range hk,List.getElem?_range (by simp;omega),Option.map_some,Option.map_some,List.getElem?_append_left hk]
 ·rw[List.getElem?_append_right (by rw[cO];omega),cO];unfold He;rw[List.getElem?_map];by_cases hk2:k<(H++G).length
  ·rw[List.getElem?_range hk2,Option.map_some,if_neg (by omega),List.getElem?_append_right (by omega)]
   have:k-H.length<G.length:=by rw[List.length_append]at hk2;omega
   rw[List.getElem?_eq_getElem this];rfl
  ·rw[List.getElem?_eq_none (by simp at hk2 ⊢;omega),List.getElem?_eq_none (by simp at hk2 ⊢;omega)];rfl
theorem lq{H:List B}{ko b m n:Nat}(g:EOk H ko b m n)(e:Nat→En):∀bl∈He H b m n e,rbB (He H b m n e).length bl:=by
 intro bl hbl;rw[cO];obtain⟨k,hk,rfl⟩:=List.mem_map.1 hbl;split
 ·rw[rbB_buf1 (iI e n _)];trivial
 ·have hk:k<H.length:=by simpa using hk
  rw[List.getElem?_eq_getElem hk];exact g.rb _ (List.getElem_mem hk)
theorem EOk.app{H:List B}{ko b m n:Nat}(g:EOk H ko b m n)(G:List B)(hG:∀bl∈G,rbB (H++G).length bl):EOk (H++G) ko b m n:=by
 have h1:=aE g.ho;refine⟨by rw[List.getElem?_append_left h1];exact g.ho,by have:=g.lt;simp;omega,g.no,fun bl hbl=>?_⟩
 rcases List.mem_append.1 hbl with h | h
 ·exact eK (by simp) (g.rb bl h)
 ·exact hG bl h
def AgrN(e:Nat→En)(i k:Nat)(s:Int)(n c:Nat):Prop:=∀a,a<c→fF s a=true→e (i*n+a)=e (k*n+a)
open Classical in
noncomputable def agN(e:Nat→En)(i k:Nat)(s:Int)(n:Nat):Bool:=decide (AgrN e i k s n n)
theorem kS{e:Nat→En}{i k:Nat}{s:Int}{n:Nat} : agN e i k s n=true↔AgrN e i k s n n:=by unfold agN;simp
theorem agree_e{H:List B}{ko b m n:Nat}(g:EOk H ko b m n)(e:Nat→En)(i k:Nat)(s:Int)(hi:i<m)(hk:k<m)(hn:n≤16):
  bA Tryz.prog 132 [.buf (b+i) 0 n n,.buf (b+k) 0 n n,.int .u32 s] (He H b m n e) fun r' H'=>r' = .bool (agN e i k s n)∧H'=He H b m n e:=by
 obtain⟨E,hE⟩:∃E,E=agN e i k s n:=⟨_,rfl⟩;rw[←hE];have r1:=gw g e hi;have r2:=gw g e hk;have l1:=cM e n i;have l2:=cM e n k;have hlt:=g.lt
 have hl1:b+i<(He H b m n e).length:=by rw[cO];omega
 have hl2:b+k<(He H b m n e).length:=by rw[cO];omega
 have hrb:=lq g e;obtain⟨b1,hb1⟩:∃b1,b1=b+i:=⟨_,rfl⟩;obtain⟨b2,hb2⟩:∃b2,b2=b+k:=⟨_,rfl⟩;rw[←hb1]at r1 hl1 ⊢;rw[←hb2]at r2 hl2 ⊢;refine aD tok Tryz.func132 rfl rfl ?_;refine wx ?_;simp -implicitDefEqProofs -dsimp[Tryz.f132,List.replicate];refine aK (W_loopM 30 [6,7,8,9,10,11,12,13,14,15,16,17,18,19,20,21,22,23,24,25,26,27,28,29] (by simp[mB]<;>rfl) (σ:=Nat) (fun a=>a≤n∧AgrN e i k s n a) (fun a=>n-a) (fun a=>[(7,.int .i64 a)]) (fun _=>He H b m n e) 0 ⟨by omega,fun a ha=>by omega⟩ (by simp) rfl (by simp) ?_);rintro a ⟨ha,hx⟩ N2 Q hN2 hQ;by_cases hb:a<n
 ·have x1:=fun h=>eJ (e:=e) (n:=n) (i:=i) (a:=a) h
  have x2:=fun h=>eJ (e:=e) (n:=n) (i:=k) (a:=a) h
  obtain⟨p,hp⟩:∃p,p=e (i*n+a):=⟨_,rfl⟩;obtain⟨q,hq⟩:∃q,q=e (k*n+a):=⟨_,rfl⟩;rw[←hp]at x1;rw[←hq]at x2
  cases hh:fF s a with
  | false =>
   refine wx ?_;simp -implicitDefEqProofs -dsimp[r1,l1,hb,dT,hh,show(a:Int)<32 by omega];refine .inr ⟨aI (by kernel_rfl),?_⟩;simp -implicitDefEqProofs -dsimp[aJ a (by omega)];refine hN2 (a+1) _ _ ⟨by omega,fun c hc1 hc2=>?_⟩ (by omega) (by simp) ⟨[],by simp⟩ (by simp[hl1,hl2]) hrb
   rcases Nat.lt_or_ge c a with h1 | h1
   ·exact hx c h1 hc2
   ·have:c=a:=by omega
    subst this;rw[hh]at hc2;cases hc2
  | true =>
   cases he:nu p q with
   | true =>
    have hpq:=(eB p q).1 he;refine wx ?_;simp -implicitDefEqProofs -dsimp[r1,r2,l1,l2,hb,dT,hh,show(a:Int)<32 by omega,x1,x2,bX,kW,he];refine .inr ⟨aI (by kernel_rfl),?_⟩;simp -implicitDefEqProofs -dsimp[aJ a (by omega)];refine hN2 (a+1) _ _ ⟨by omega,fun c hc1 hc2=>?_⟩ (by omega) (by simp) ⟨[],by simp⟩ (by simp[hl1,hl2]) hrb
    rcases Nat.lt_or_ge c a with h1 | h1
    ·exact hx c h1 hc2
    ·have:c=a:=by omega
     subst this;rw[←hp,←hq];exact hpq
   | false =>
    have hno:agN e i k s n=false:=by
     cases hc:agN e i k s n
     ·rfl
     ·have:=kS.1 hc a hb hh;rw[←hp,←hq]at this;rw[(eB p q).2 this]at he;cases he
    rw[hno]at hE;refine wx ?_;simp -implicitDefEqProofs -dsimp[r1,r2,l1,l2,hb,dT,hh,show(a:Int)<32 by omega,x1,x2,bX,kW,he];refine .inr ⟨aI (by kernel_rfl),?_⟩;refine hQ _ _ _ ?_;simp -implicitDefEqProofs -dsimp[];exact hE
 ·have hyes:agN e i k s n=true:=kS.2 fun c h1 h2=>hx c (by omega) h2
  rw[hyes]at hE;refine wx ?_;simp -implicitDefEqProofs -dsimp[r1,l1,hb];refine hQ _ _ _ ?_;simp -implicitDefEqProofs -dsimp[];exact hE
open Classical in
noncomputable def bF(e:Nat→En)(old new:En)(c:Nat)(x:Nat):En:=if x<c∧e x=old then new else e x
theorem repTo_zero(e:Nat→En)(old new:En):bF e old new 0=e:=by funext x;unfold bF;rw[if_neg (by omega)]
theorem repTo_at(e:Nat→En)(old new:En)(c:Nat):bF e old new c c=e c:=by unfold bF;rw[if_neg (by omega)]
theorem pN{e:Nat→En}{old new:En}{c x:Nat}(h:x≠c):bF e old new (c+1) x=bF e old new c x:=by
 unfold bF;by_cases hx:x<c
 ·by_cases he:e x=old
  ·rw[if_pos ⟨by omega,he⟩,if_pos ⟨hx,he⟩]
  ·rw[if_neg (fun hh=>he hh.2),if_neg (fun hh=>he hh.2)]
 ·rw[if_neg (fun hh=>by omega),if_neg (fun hh=>hx hh.1)]
theorem repTo_yes{e:Nat→En}{old new:En}{c:Nat}(h:e c=old):bF e old new (c+1) c=new:=by unfold bF;rw[if_pos ⟨by omega,h⟩]
theorem repTo_no{e:Nat→En}{old new:En}{c:Nat}(h:e c≠old):bF e old new (c+1)=bF e old new c:=by
 funext x;by_cases hx:x=c
 ·subst hx;rw[repTo_at];unfold bF;rw[if_neg (fun hh=>h hh.2)]
 ·exact pN hx
theorem rowE_set{e e':Nat→En}{n i k:Nat}{x:En}(hk:k<n)(hx:e' (i*n+k)=x)(h:∀a,a<n→a≠k→e' (i*n+a)=e (i*n+a)):(dR e n i).set k (.agg [.int .i64 x.v.k,.int .i64 x.v.n,.str x.v.s,.int .i64 x.s])=dR e' n i:=by
 apply List.ext_getElem?;intro a;by_cases ha:a=k
 ·subst ha;rw[List.getElem?_set_self (by rw[cM];exact hk)];simp[dR,hk,hx,bX]
 ·rw[List.getElem?_set_ne (Ne.symm ha)];by_cases hal:a<n
  ·simp[dR,hal,h a hal ha]
  ·rw[List.getElem?_eq_none (by rw[cM];omega),List.getElem?_eq_none (by rw[cM];omega)]
theorem dW{H:List B}{ko b m n:Nat}(g0:EOk H ko b m n)(e:Nat→En)(old new:En)(hn:n≤16)(hm:m≤1000):
  bA Tryz.prog 56 [.buf ko 0 m m,bX old,bX new] (He H b m n e) fun r' H'=>∃G,H'=He H b m n (bF e old new (m*n))++G:=by
 obtain⟨G,hG⟩:∃G,G=[B.cells [.int .i64 old.v.k,.int .i64 old.v.n,.str old.v.s,.int .i64 old.s],B.cells [.int .i64 new.v.k,.int .i64 new.v.n,.str new.v.s,.int .i64 new.s]]:=⟨_,rfl⟩;have g:=g0.app G (by rw[hG];simp)
 have happ:=fun e=>dc g0 G e
 obtain⟨H2,hH2⟩:∃H2,H2=H++G:=⟨_,rfl⟩;rw[←hH2]at g
 have happ2:∀e,He H b m n e++[B.cells [.int .i64 old.v.k,.int .i64 old.v.n,.str old.v.s,.int .i64 old.s],B.cells [.int .i64 new.v.k,.int .i64 new.v.n,.str new.v.s,.int .i64 new.s]]=He H2 b m n e:=fun e=>by rw[hH2,←happ e,hG]
 have hlen:=fun e=>cO H b m n e
 have hlt:=g0.lt;have hlt2:=g.lt
 have hL2:H2.length=H.length+2:=by rw[hH2,hG];simp
 have hx1:∀e,(He H2 b m n e)[H.length]?=some (B.cells [.int .i64 old.v.k,.int .i64 old.v.n,.str old.v.s,.int .i64 old.s]):=fun e=>by
  rw[←happ2 e,List.getElem?_append_right (by rw[hlen];omega),hlen];simp
 have hx2:∀e,(He H2 b m n e)[H.length+1]?=some (B.cells [.int .i64 new.v.k,.int .i64 new.v.n,.str new.v.s,.int .i64 new.s]):=fun e=>by
  rw[←happ2 e,List.getElem?_append_right (by rw[hlen];omega),hlen];simp
 have hout:=fun e=>pq g e
 have hol:=eL b m n
 have hlenA:=fun e=>cO H2 b m n e
 have hrb:=fun e=>lq g e
 have hkl:∀e,ko<(He H2 b m n e).length:=fun e=>by rw[hlenA];have:=g.no;omega
 have hl1:∀e,H.length<(He H2 b m n e).length:=fun e=>by rw[hlenA,hL2];omega
 have hl2:∀e,H.length+1<(He H2 b m n e).length:=fun e=>by rw[hlenA,hL2];omega
 obtain⟨L,hLe⟩:∃L,L=H.length:=⟨_,rfl⟩;rw[←hLe]at hx1 hx2 hl1 hl2 hlen;refine aD tok Tryz.func56 rfl rfl ?_;refine wx ?_;simp -implicitDefEqProofs -dsimp[Tryz.f56,List.replicate,bX,happ2,hlen];refine aK (W_loopM 39 [6,7,8,9,10,11,12,13,14,15,16,17,18,19,20,21,22,23,24,25,26,27,28,29,30,31,32,33,34,35,36,37,38] (by simp[mB]<;>rfl) (σ:=Nat) (fun i=>i≤m) (fun i=>m-i) (fun i=>[(6,.int .i64 i)]) (fun i=>He H2 b m n (bF e old new (i*n))) 0 (by omega) (by simp) (by simp[repTo_zero]) (by simp[hlenA]) ?_);intro i hi N Q hN hQ;by_cases hib:i<m
 ·have hog:=fun h=>iL (b:=b) (m:=m) (n:=n) (i:=i) h
  have hbl:∀e,b+i<(He H2 b m n e).length:=fun e=>by rw[hlenA];omega
  have hrow:=fun e=>gw g e hib
  have hrl:=fun e=>cM e n i
  obtain⟨bi,hbi⟩:∃bi,bi=b+i:=⟨_,rfl⟩;rw[←hbi]at hog hbl hrow
  have hset:∀e' e'':Nat→En,(∀k a,k<m→a<n→k≠i→e'' (k*n+a)=e' (k*n+a))→(He H2 b m n e').set bi (.buf 117 4 (dR e'' n i) false)=He H2 b m n e'':=fun e' e'' h=>by rw[hbi];exact he_set g e' e'' hib h
  refine wx ?_;simp -implicitDefEqProofs -dsimp[hout,hol,hib];refine aK (W_loopM 39 [7,14,15,16,17,18,19,20,21,22,23,24,25,26,27,28,29,30,31,32,33,34,35,36,37,38] (by simp[mB]<;>rfl) (σ:=Nat) (fun k=>k≤n) (fun k=>n-k) (fun k=>[(7,.int .i64 k)]) (fun k=>He H2 b m n (bF e old new (i*n+k))) 0 (by omega) (by simp) (by simp) (by simp[hlenA]) ?_);intro k hk N2 Q2 hN2 hQ2;by_cases hkb:k<n
  ·have hlt3:=aq hib hkb;obtain⟨c,hc⟩:∃c,c=i*n+k:=⟨_,rfl⟩
   have hc1:i*n+(k+1)=c+1:=by omega
   have hget:∀(h:k<(dR (bF e old new c) n i).length),(dR (bF e old new c) n i)[k]=bX (e c):=fun h=>by rw[eJ h,←hc,repTo_at]
   rw[←hc];obtain⟨p,hp⟩:∃p,p=e c:=⟨_,rfl⟩;rw[←hp]at hget
   have hother:∀k' a,k'<m→a<n→k'≠i→bF e old new (c+1) (k'*n+a)=bF e old new c (k'*n+a):=fun k' a hk' ha hne=>pN (by
    intro h;rw[hc]at h;have d1:=(om (i:=k') ha).1;have d2:=(om (i:=i) hkb).1;rw[h,d2]at d1
    exact hne d1.symm)
   cases hq:nu p old with
   | true =>
    have hpo:e c=old:=by rw[←hp];exact(eB p old).1 hq
    have hrs:=rowE_set (e:=bF e old new c) (e':=bF e old new (c+1)) (n:=n) (i:=i) (k:=k) (x:=new) hkb (by rw[←hc];exact repTo_yes hpo) (fun a ha hne=>pN (by omega));have hst:=hset (bF e old new c) (bF e old new (c+1)) hother;refine wx ?_;simp -implicitDefEqProofs -dsimp[hout,hol,hib,hog,hrow,hrl,hkb,hget,bX,kW,hx1,hq];refine .inr ⟨aI (by kernel_rfl),?_⟩;refine aK (am tok mixed [7] [] [] (by kernel_rfl) fun C K hC hK=>?_);simp -implicitDefEqProofs [hout,hol,hib,hog,hrow,hrl,hkb,hget,bX,hx2,hrs,hst];refine hK _ _ ?_;simp -implicitDefEqProofs -dsimp[aJ k (by omega)];refine hN2 (k+1) _ _ (by omega) (by omega) (by simp) ⟨[],by rw[hc1];simp⟩ (by simp[hkl,hl1,hl2]) (hrb _)
   | false =>
    have hpo:e c≠old:=fun h=>by rw[hp,h]at hq;rw[(eB old old).2 rfl]at hq;cases hq
    have hsame:=repTo_no (new:=new) hpo;refine wx ?_;simp -implicitDefEqProofs -dsimp[hout,hol,hib,hog,hrow,hrl,hkb,hget,bX,kW,hx1,hq];refine .inr ⟨aI (by kernel_rfl),?_⟩;simp -implicitDefEqProofs -dsimp[aJ k (by omega)];refine hN2 (k+1) _ _ (by omega) (by omega) (by simp) ⟨[],by rw[hc1,hsame];simp⟩ (by simp[hkl,hl1,hl2]) (hrb _)
  ·obtain rfl:k=n:=by omega
   have hc1:i*k+k=(i+1)*k:=by rw[Nat.add_mul];omega
   refine wx ?_;simp -implicitDefEqProofs -dsimp[hout,hol,hib,hog,hrow,hrl,hkb];refine hQ2 _ _ _ ?_;simp -implicitDefEqProofs -dsimp[aJ i (by omega)];refine hN (i+1) _ _ (by omega) (by omega) (by simp) ⟨[],by rw[hc1];simp⟩ (by simp[hkl,hl1,hl2]) (hrb _)
 ·obtain rfl:i=m:=by omega
  refine wx ?_;simp -implicitDefEqProofs -dsimp[hout,hol,hib];refine hQ _ _ _ ?_;simp -implicitDefEqProofs -dsimp[];exact⟨G,by rw[happ,hH2]⟩
def zV:Vl:=⟨0,0,ByteArray.empty⟩
def toD(x:En):Dm:=if x.s=0 then .inl x.v else .inr x.s.toNat
structure EnOk (e:Nat→En) (N S:Nat):Prop where
 lo:∀x,x<N→0≤(e x).s
 hi:∀x,x<N→(e x).s≤S
 z:∀x,x<N→(e x).s≠0→(e x).v=zV
theorem oO{e:Nat→En}{N S:Nat}(h:EnOk e N S){x y:Nat}(hx:x<N)(hy:y<N):toD (e x)=toD (e y)↔e x=e y:=by
 constructor
 ·intro he;unfold toD at he;have l1:=h.lo x hx;have l2:=h.lo y hy;have z1:=h.z x hx;have z2:=h.z y hy;generalize e x=p at *;generalize e y=q at *;obtain⟨v,s⟩:=p;obtain⟨w,r⟩:=q;simp only at *;by_cases hs:s=0
  ·by_cases hr:r=0
   ·rw[if_pos hs,if_pos hr]at he;rw[hs,hr,Sum.inl.inj he]
   ·rw[if_pos hs,if_neg hr]at he;cases he
  ·by_cases hr:r=0
   ·rw[if_neg hs,if_pos hr]at he;cases he
   ·rw[if_neg hs,if_neg hr]at he;have h1:=Sum.inr.inj he;rw[z1 hs,z2 hr,show s=r by omega]
 ·rintro h;rw[h]
theorem step_sem{q:Prob}{e:Nat→En}{S:Nat}(hE:Ent q (fun x=>toD (e x)))(hO:EnOk e (q.m*q.n) S)(hn:q.n≤16){d:Fd}(hd:d∈q.fds)(hb:d.l<4294967296∧d.r<4294967296){i k a:Nat}(hi:i<q.m)(hk:k<i)(hl:AgrN e i k d.l q.n q.n)(ha:a<q.n)(hr:fF d.r a=true):
  ∀σ,Sol q σ→σ (i*q.n+a)=σ (k*q.n+a):=fun σ hσ=>by
 obtain⟨τ,ht⟩:=hE.sem σ hσ;refine hσ.dep d hd i k hi hk (fun b hb1 hb2=>?_) a ha (by rw[eM _ _ hb.2 (by omega)]at hr;exact hr);rw[ht _ (aq hi hb1),ht _ (aq (by omega) hb1),hl b hb1 (by rw[eM _ _ hb.1 (by omega)];exact hb2)]
theorem pB{q:Prob}{e:Nat→En}{S:Nat}(hE:Ent q (fun x=>toD (e x))){x y:Nat}(hx:x<q.m*q.n)(hy:y<q.m*q.n)(h1:(e x).s=0)(h2:(e y).s=0)(hne:e x≠e y)(hs:∀σ,Sol q σ→σ x=σ y):¬Okq q:=by
 refine hE.clash hx hy (v:=(e x).v) (w:=(e y).v) (by simp[toD,h1]) (by simp[toD,h2]) (fun h=>hne ?_) hs;generalize e x=p at *;generalize e y=r at *;obtain⟨v,s⟩:=p;obtain⟨w,t⟩:=r;simp only at *;rw[h1,h2,h]
theorem lL{q:Prob}{e:Nat→En}{S:Nat}(hE:Ent q (fun x=>toD (e x)))(hO:EnOk e (q.m*q.n) S){x y:Nat}(hx:x<q.m*q.n)(hy:y<q.m*q.n)(hsx:(e x).s≠0)(hne:e x≠e y)(hs:∀σ,Sol q σ→σ x=σ y):
  Ent q (fun z=>toD (bF e (e x) (e y) (q.m*q.n) z))∧EnOk (bF e (e x) (e y) (q.m*q.n)) (q.m*q.n) S∧oH (q.m*q.n) (S+1) (fun z=>toD (bF e (e x) (e y) (q.m*q.n) z))<oH (q.m*q.n) (S+1) (fun z=>toD (e z)):=by
 have hex:toD (e x)= .inr (e x).s.toNat:=by simp[toD,hsx]
 have heq:∀z,z<q.m*q.n→toD (bF e (e x) (e y) (q.m*q.n) z)=repE (fun z=>toD (e z)) (e x).s.toNat (toD (e y)) z:=fun z hz=>by
  unfold bF repE;by_cases hzx:e z=e x
  ·rw[if_pos ⟨hz,hzx⟩,if_pos (by show toD (e z)=_;rw[hzx,hex])]
  ·rw[if_neg (fun h=>hzx h.2),if_neg (fun h=>hzx ((oO hO hz hx).1 (h.trans hex.symm)))]
 have hrep:=hE.rep hx hy hex hs;refine⟨?_,?_,?_⟩
 ·refine⟨fun z v hz hk=>by rw[heq z hz];exact hrep.fix z v hz hk,fun σ hσ=>?_⟩;obtain⟨τ,ht⟩:=hrep.sem σ hσ;exact⟨τ,fun z hz=>by rw[ht z hz,←heq z hz]⟩
 ·refine⟨fun z hz=>?_,fun z hz=>?_,fun z hz=>?_⟩<;>unfold bF<;>split
  ·exact hO.lo y hy
  ·exact hO.lo z hz
  ·exact hO.hi y hy
  ·exact hO.hi z hz
  ·exact hO.z y hy
  ·exact hO.z z hz
 ·have hc:=cntS_rep (N:=q.m*q.n) (S:=S+1) (s:=(e x).s.toNat) (e:=fun z=>toD (e z)) (x0:=x) (y0:=y) hx hy hex (fun h=>hne ((oO hO hx hy).1 (hex.trans h.symm))) (by have:=hO.hi x hx;omega);refine Nat.lt_of_le_of_lt (Nat.le_of_eq ?_) hc;unfold oH;congr 1
  refine List.filter_congr fun s _=>?_
  unfold hasSym;refine decide_eq_decide.2 ?_;constructor
  ·rintro⟨z,hz,h⟩;exact⟨z,hz,(heq z hz).symm.trans h⟩
  ·rintro⟨z,hz,h⟩;exact⟨z,hz,(heq z hz).trans h⟩
def ClsN(q:Prob)(e:Nat→En)(d:Fd)(i k:Nat):Prop:=AgrN e i k d.l q.n q.n→AgrN e i k d.r q.n q.n
theorem qS{q:Prob}{e:Nat→En}{S:Nat}(hO:EnOk e (q.m*q.n) S)(hn:q.n≤16)(hd:∀d∈q.fds,d.l<4294967296∧d.r<4294967296)(h:∀d∈q.fds,∀i k,i<q.m→k<i→ClsN q e d i k):fX q (fun x=>toD (e x)):=fun d hd1 i k hi hk hl a ha hb=>by
 have:=h d hd1 i k hi hk (fun c hc1 hc2=>?_) a ha (by rw[eM _ _ (hd d hd1).2 (by omega)];exact hb)
 ·show toD _=toD _;rw[this]
 ·exact(oO hO (aq hi hc1) (aq (by omega) hc1)).1 (hl c hc1 (by rw[eM _ _ (hd d hd1).1 (by omega)]at hc2;exact hc2))
def StepR(q:Prob)(H:List B)(b:Nat)(S:Nat)(e:Nat→En)(r:V)(H':List B):Prop :=
 (r = .int .i64 0∧fX q (fun x=>toD (e x))∧∃G,H'=He H b q.m q.n e++G)∨(r = .int .i64 (-1)∧¬Okq q)∨
 (r = .int .i64 1∧∃e' G,H'=He H b q.m q.n e'++G∧Ent q (fun x=>toD (e' x))∧EnOk e' (q.m*q.n) S∧oH (q.m*q.n) (S+1) (fun x=>toD (e' x))<oH (q.m*q.n) (S+1) (fun x=>toD (e x)))
theorem cA(s:Int)(a:Nat):(IntKind.u32.wrap ↑((s.fdiv (2^min a IntKind.u32.bits) % 2^IntKind.u32.bits).toNat &&& 1 % 2^IntKind.u32.bits)== 0)= !fF s a:=by
 unfold fF;have h4:(1 % 2^IntKind.u32.bits:Nat)=1:=rfl;rw[h4,Nat.and_one_is_mod,u32w _ (by omega)];have:=Nat.mod_two_eq_zero_or_one (s.fdiv (2^min a IntKind.u32.bits) % 2^IntKind.u32.bits).toNat
 rcases this with h | h<;>rw[h]<;>rfl
theorem r5:List.range 5=[0,1,2,3,4]:=rfl
theorem ia1:List.idxOf 14 [14,15,16,17]=0:=rfl
theorem ia2:List.idxOf 15 [14,15,16,17]=1:=rfl
theorem ia3:List.idxOf 16 [14,15,16,17]=2:=rfl
theorem ia4:List.idxOf 17 [14,15,16,17]=3:=rfl
theorem ib1:List.idxOf 14 [15,14,16,17]=1:=rfl
theorem ib2:List.idxOf 15 [15,14,16,17]=0:=rfl
theorem ib3:List.idxOf 16 [15,14,16,17]=2:=rfl
theorem ib4:List.idxOf 17 [15,14,16,17]=3:=rfl
theorem step_r{q:Prob}{H:List B}{ko b m n S:Nat}(hme:q.m=m)(hne:q.n=n)(g:EOk H ko b m n)(e:Nat→En)(hE:Ent q (fun x=>toD (e x)))(hO:EnOk e (q.m*q.n) S)(hn:n≤16)(hm:m≤1000)(ff:Bool)(hF:bU q.fds):
  bA Tryz.prog 91 [.buf ko 0 m m,LF ff q.fds] (He H b m n e) (StepR q H b S e):=by
 obtain⟨hF1,hF2⟩:=hF;have hclo:=qS hO (by omega) hF2;obtain⟨fds,hfds⟩:∃fds,fds=q.fds:=⟨_,rfl⟩;have hout:=pq g e;have hol:=eL b m n;have hlenA:=cO H b m n e;have hrb:=lq g e;have hlt:=g.lt
 have hkl:ko<(He H b m n e).length:=by rw[hlenA];have:=g.no;omega
 rw[←hfds]at hF1 hF2 hclo ⊢;refine aD tok Tryz.func91 rfl rfl ?_;refine wx ?_;simp -implicitDefEqProofs -dsimp[Tryz.f91,List.replicate,LF];refine aK (W_loopM 99 [4,5,6,7,8,9,10,11,12,13,14,15,16,17,18,19,20,21,22,23,24,25,26,27,28,29,30,31,32,33,34,35,36,37,38,39,40,41,42,43,44,45,46,47,48,49,50,51,52,53,54,55,56,57,58,59,60,61,62,63,64,65,66,67,68,69,70,71,72,73,74,75,76,77,78,79,80,81,82,83,84,85,86,87,88,89,90,91,92,93,94,95,96,97,98] (by simp[mB]<;>rfl) (σ:=Nat) (fun j=>j≤fds.length∧∀d∈fds.take j,∀i k,i<m→k<i→ClsN q e d i k) (fun j=>fds.length-j) (fun j=>[(5,.int .i64 j)]) (fun _=>He H b m n e) 0 ⟨by omega,by simp⟩ (by simp) rfl (by simp) ?_);rintro j ⟨hj,hx⟩ N Q hN hQ;by_cases hjb:j<fds.length
 ·obtain⟨d,hd⟩:∃d,d=fds[j]:=⟨_,rfl⟩;have hd':=hd.symm;have hdm:d∈fds:=hd▸List.getElem_mem hjb;have hdb:=hF2 d hdm;refine wx ?_;simp -implicitDefEqProofs -dsimp[hjb];refine aK (W_loopM 99 [4,6,7,8,9,10,17,18,19,20,21,22,23,24,25,26,27,28,29,30,31,32,33,34,35,36,37,38,39,40,41,42,43,44,45,46,47,48,49,50,51,52,53,54,55,56,57,58,59,60,61,62,63,64,65,66,67,68,69,70,71,72,73,74,75,76,77,78,79,80,81,82,83,84,85,86,87,88,89,90,91,92,93,94,95,96,97,98] (by simp[mB]<;>rfl) (σ:=Nat) (fun i=>i≤m∧∀i' k,i'<i→k<i'→ClsN q e d i' k) (fun i=>m-i) (fun i=>[(6,.int .i64 i)]) (fun _=>He H b m n e) 0 ⟨by omega,fun i' k h=>by omega⟩ (by simp) rfl (by simp) ?_);rintro i ⟨hi,hx2⟩ N2 Q2 hN2 hQ2;by_cases hib:i<m
  ·have hog:=fun h=>iL (b:=b) (m:=m) (n:=n) (i:=i) h
   have hrow:=gw g e hib;have hrl:=cM e n i
   have hbl:b+i<(He H b m n e).length:=by rw[hlenA];omega
   refine wx ?_;simp -implicitDefEqProofs -dsimp[hout,hol,hib];refine aK (W_loopM 99 [4,7,8,9,10,23,24,25,26,27,28,29,30,31,32,33,34,35,36,37,38,39,40,41,42,43,44,45,46,47,48,49,50,51,52,53,54,55,56,57,58,59,60,61,62,63,64,65,66,67,68,69,70,71,72,73,74,75,76,77,78,79,80,81,82,83,84,85,86,87,88,89,90,91,92,93,94,95,96,97,98] (by simp[mB]<;>rfl) (σ:=Nat) (fun k=>k≤i∧∀k',k'<k→ClsN q e d i k') (fun k=>i-k) (fun k=>[(7,.int .i64 k)]) (fun _=>He H b m n e) 0 ⟨by omega,fun k h=>by omega⟩ (by simp) rfl (by simp) ?_);rintro k ⟨hk,hx3⟩ N3 Q3 hN3 hQ3;by_cases hkb:k<i
   ·have hkm:k<m:=by omega
    have hog2:=fun h=>iL (b:=b) (m:=m) (n:=n) (i:=k) h
    have hrow2:=gw g e hkm;have hrl2:=cM e n k
    have hbl2:b+k<(He H b m n e).length:=by rw[hlenA];omega
    have ca:=agree_e g e i k (d.l:Int) hib hkm hn
    cases ha1:agN e i k d.l n with
    | false =>
     rw[ha1]at ca;refine wx ?_;simp -implicitDefEqProofs -dsimp[hkb,hout,hol,hib,hkm,hog,hog2,hjb,hd',cT];refine .inr ⟨aI (by kernel_rfl),?_⟩;refine ae _ ca ?_;simp -implicitDefEqProofs -dsimp[aJ k (by omega)];refine hN3 (k+1) _ _ ⟨by omega,fun k' hk'=>?_⟩ (by omega) (by simp) ⟨[],by simp⟩ (by simp[hkl]) hrb
     rcases Nat.lt_or_ge k' k with h1 | h1
     ·exact hx3 k' h1
     ·have:k'=k:=by omega
      subst this;intro hy;rw[hne]at hy;rw[kS.2 hy]at ha1;cases ha1
    | true =>
     rw[ha1]at ca;have hag:=kS.1 ha1;refine wx ?_;simp -implicitDefEqProofs -dsimp[hkb,hout,hol,hib,hkm,hog,hog2,hjb,hd',cT];refine .inr ⟨aI (by kernel_rfl),?_⟩;refine ae _ ca ?_;simp -implicitDefEqProofs -dsimp[];refine aK (W_loopM 99 [4,8,9,10,43,44,45,46,47,48,49,50,51,52,53,54,55,56,57,58,59,60,61,62,63,64,65,66,67,68,69,70,71,72,73,74,75,76,77,78,79,80,81,82,83,84,85,86,87,88,89,90,91,92,93,94,95,96,97,98] (by simp[mB]<;>rfl) (σ:=Nat) (fun a=>a≤n∧AgrN e i k d.r n a) (fun a=>n-a) (fun a=>[(8,.int .i64 a)]) (fun _=>He H b m n e) 0 ⟨by omega,fun a h=>by omega⟩ (by simp) rfl (by simp) ?_);rintro a ⟨ha,hx4⟩ N4 Q4 hN4 hQ4;by_cases hab:a<n
     ·have x1:=fun h=>eJ (e:=e) (n:=n) (i:=i) (a:=a) h
      have x2:=fun h=>eJ (e:=e) (n:=n) (i:=k) (a:=a) h
      obtain⟨p,hp⟩:∃p,p=e (i*n+a):=⟨_,rfl⟩;obtain⟨r,hr⟩:∃r,r=e (k*n+a):=⟨_,rfl⟩;rw[←hp]at x1;rw[←hr]at x2
      have ho1:∀G,(He H b m n e++G)[ko]?=some (B.buf 115 1 (eh b m n) false):=fun G=>by rw[List.getElem?_append_left hkl];exact hout
      have ho2:∀G,(He H b m n e++G)[b+i]?=some (B.buf 117 4 (dR e n i) false):=fun G=>by rw[List.getElem?_append_left hbl];exact hrow
      have ho3:∀G,(He H b m n e++G)[b+k]?=some (B.buf 117 4 (dR e n k) false):=fun G=>by rw[List.getElem?_append_left hbl2];exact hrow2
      refine wx ?_;simp -implicitDefEqProofs -dsimp[hout,hol,hib,hog,hrow,hrl,hab]
      refine aK (W_draw2 tok mixed [14,15,16,17] [15,14,16,17] []
       [He H b m n e++[.cells [.int .i64 0,.int .i64 0,.str ByteArray.empty,.int .i64 0]],He H b m n e++[.cells [.int .i64 0,.int .i64 0,.str ByteArray.empty,.int .i64 0],.cells [.int .i64 0,.int .i64 0,.str ByteArray.empty,.int .i64 0]],
        He H b m n e++[.cells [.int .i64 p.v.k,.int .i64 p.v.n,.str p.v.s,.int .i64 p.s],.cells [.int .i64 0,.int .i64 0,.str ByteArray.empty,.int .i64 0]],He H b m n e++[.cells [.int .i64 p.v.k,.int .i64 p.v.n,.str p.v.s,.int .i64 p.s],.cells [.int .i64 r.v.k,.int .i64 r.v.n,.str r.v.s,.int .i64 r.s]]]
       [He H b m n e++[.cells [.int .i64 0,.int .i64 0,.str ByteArray.empty,.int .i64 0]],He H b m n e++[.cells [.int .i64 0,.int .i64 0,.str ByteArray.empty,.int .i64 0],.cells [.int .i64 0,.int .i64 0,.str ByteArray.empty,.int .i64 0]],
        He H b m n e++[.cells [.int .i64 0,.int .i64 0,.str ByteArray.empty,.int .i64 0],.cells [.int .i64 p.v.k,.int .i64 p.v.n,.str p.v.s,.int .i64 p.s]],He H b m n e++[.cells [.int .i64 r.v.k,.int .i64 r.v.n,.str r.v.s,.int .i64 r.s],.cells [.int .i64 p.v.k,.int .i64 p.v.n,.str p.v.s,.int .i64 p.s]]]
       (by kernel_rfl) fun K hK=>?_)
      simp -implicitDefEqProofs [hout,hol,hib,hkm,hog,hog2,hrow,hrow2,hrl,hrl2,hab,x1,x2,ho1,ho2,ho3,bX,hlenA,r5,ia1,ia2,ia3,ia4,ib1,ib2,ib3,ib4];obtain⟨L,hL⟩:∃L,L=H.length:=⟨_,rfl⟩;rw[←hL]at hlenA ⊢;obtain⟨P4,hP4⟩:∃P4,P4=B.cells [.int .i64 p.v.k,.int .i64 p.v.n,.str p.v.s,.int .i64 p.s]:=⟨_,rfl⟩;obtain⟨R4,hR4⟩:∃R4,R4=B.cells [.int .i64 r.v.k,.int .i64 r.v.n,.str r.v.s,.int .i64 r.s]:=⟨_,rfl⟩
      have y1:(He H b m n e++[P4,R4])[L]?=some (B.cells [.int .i64 p.v.k,.int .i64 p.v.n,.str p.v.s,.int .i64 p.s]):=by rw[List.getElem?_append_right (by omega),hlenA,hP4];simp
      have y2:(He H b m n e++[P4,R4])[L+1]?=some (B.cells [.int .i64 r.v.k,.int .i64 r.v.n,.str r.v.s,.int .i64 r.s]):=by rw[List.getElem?_append_right (by omega),hlenA,hR4];simp
      have y3:(He H b m n e++[R4,P4])[L+1]?=some (B.cells [.int .i64 p.v.k,.int .i64 p.v.n,.str p.v.s,.int .i64 p.s]):=by rw[List.getElem?_append_right (by omega),hlenA,hP4];simp
      have y4:(He H b m n e++[R4,P4])[L]?=some (B.cells [.int .i64 r.v.k,.int .i64 r.v.n,.str r.v.s,.int .i64 r.s]):=by rw[List.getElem?_append_right (by omega),hlenA,hR4];simp
      have rbP:∀k,rbB k P4:=fun k=>by rw[hP4];simp
      have rbR:∀k,rbB k R4:=fun k=>by rw[hR4];simp
      rw[←hP4,←hR4]
      have again:(fF (d.r:Int) a=true→p=r)→AgrN e i k d.r n (a+1):=fun h c hc1 hc2=>by
       rcases Nat.lt_or_ge c a with h1 | h1
       ·exact hx4 c h1 hc2
       ·have:c=a:=by omega
        subst this;rw[←hp,←hr];exact h hc2
      cases hh:fF (d.r:Int) a with
      | false =>
       have hag2:=again (fun h=>by rw[hh]at h;cases h);refine⟨hK _ _ ?_,hK _ _ ?_⟩
       all_goals
        simp -implicitDefEqProofs -dsimp[hjb,hd',cT,cA,hh,show(a:Int)<32 by omega,aJ a (by omega)];refine hN4 (a+1) _ _ ⟨by omega,hag2⟩ (by omega) (by simp) ⟨_,rfl⟩ (by simp[hkl,hbl,hbl2]) hrb
      | true =>
       cases heq:nu p r with
       | true =>
        have hag2:=again (fun _=>(eB p r).1 heq);refine⟨hK _ _ ?_,hK _ _ ?_⟩
        all_goals
         simp -implicitDefEqProofs -dsimp[hjb,hd',cT,cA,hh,show(a:Int)<32 by omega,y1,y2,y3,y4,kW,heq,aJ a (by omega)];refine hN4 (a+1) _ _ ⟨by omega,hag2⟩ (by omega) (by simp) ⟨_,rfl⟩ (by simp[hkl,hbl,hbl2]) hrb
       | false =>
        have hpr:e (i*n+a)≠e (k*n+a):=fun h=>by
         rw[hp,hr,(eB _ _).2 h]at heq;cases heq
        have li:=aq hib hab;have lk:=aq hkm hab;have hsem:=step_sem hE hO (by omega) (hfds▸hdm) hdb (show i<q.m by omega) hkb (by rw[hne];exact hag) (by rw[hne];exact hab) hh;rw[hne]at hsem
        have hq1:i*n+a<q.m*q.n:=by rw[hme,hne];exact li
        have hq2:k*n+a<q.m*q.n:=by rw[hme,hne];exact lk
        by_cases s1:p.s=0
        ·by_cases s2:r.s=0
         ·have z1:(p.s == 0)=true:=by simp[s1]
          have z2:(r.s == 0)=true:=by simp[s2]
          have hno:=pB hE (S:=S) hq1 hq2 (by rw[←hp];exact s1) (by rw[←hr];exact s2) hpr hsem;refine⟨hK _ _ ?_,hK _ _ ?_⟩
          all_goals
           simp -implicitDefEqProofs -dsimp[hjb,hd',cT,cA,hh,show(a:Int)<32 by omega,y1,y2,y3,y4,kW,heq,z1,z2];refine hQ4 _ _ _ ?_;simp -implicitDefEqProofs -dsimp[];refine hQ3 _ _ _ ?_;simp -implicitDefEqProofs -dsimp[];refine hQ2 _ _ _ ?_;simp -implicitDefEqProofs -dsimp[];refine hQ _ _ _ ?_;simp -implicitDefEqProofs -dsimp[];exact .inr (.inl ⟨rfl,hno⟩)
         ·have z1:(p.s == 0)=true:=by simp[s1]
          have z2:(r.s == 0)=false:=by simp[s2]
          have hrep:=lL hE hO hq2 hq1 (by rw[←hr];exact s2) (fun h=>hpr h.symm) (fun σ hσ=>(hsem σ hσ).symm);rw[hme,hne,←hp,←hr]at hrep;have c1:=dW (g.app [P4,R4] (by simp[↓rbP,↓rbR])) e r p hn hm;have c2:=dW (g.app [R4,P4] (by simp[↓rbP,↓rbR])) e r p hn hm;rw[←dc g]at c1 c2
          have a1:=fun G=>congrArg (·++G) (dc g [P4,R4] (bF e r p (m*n))).symm
          have a2:=fun G=>congrArg (·++G) (dc g [R4,P4] (bF e r p (m*n))).symm
          simp only[bX]at c1 c2;refine⟨hK _ _ ?_,hK _ _ ?_⟩
          ·simp -implicitDefEqProofs -dsimp[hjb,hd',cT,cA,hh,show(a:Int)<32 by omega,y1,y2,kW,heq,z1,z2];refine aT.mono (K:=fun r' H'=>∃G,H'=He (H++[P4,R4]) b m n (bF e r p (m*n))++G) c1 ?_;rintro r' H' ⟨G,rfl⟩;simp -implicitDefEqProofs -dsimp[];refine hQ4 _ _ _ ?_;simp -implicitDefEqProofs -dsimp[];refine hQ3 _ _ _ ?_;simp -implicitDefEqProofs -dsimp[];refine hQ2 _ _ _ ?_;simp -implicitDefEqProofs -dsimp[];refine hQ _ _ _ ?_;simp -implicitDefEqProofs -dsimp[];exact .inr (.inr ⟨rfl,_,_,by rw[hme,hne];exact(a1 G).trans (List.append_assoc _ _ _),by simpa only[hme,hne] using hrep⟩)
          ·simp -implicitDefEqProofs -dsimp[hjb,hd',cT,cA,hh,show(a:Int)<32 by omega,y3,y4,kW,heq,z1,z2];refine aT.mono (K:=fun r' H'=>∃G,H'=He (H++[R4,P4]) b m n (bF e r p (m*n))++G) c2 ?_;rintro r' H' ⟨G,rfl⟩;simp -implicitDefEqProofs -dsimp[];refine hQ4 _ _ _ ?_;simp -implicitDefEqProofs -dsimp[];refine hQ3 _ _ _ ?_;simp -implicitDefEqProofs -dsimp[];refine hQ2 _ _ _ ?_;simp -implicitDefEqProofs -dsimp[];refine hQ _ _ _ ?_;simp -implicitDefEqProofs -dsimp[];exact .inr (.inr ⟨rfl,_,_,by rw[hme,hne];exact(a2 G).trans (List.append_assoc _ _ _),by simpa only[hme,hne] using hrep⟩)
        ·have z1:(p.s == 0)=false:=by simp[s1]
         have z2:True:=trivial;have hrep:=lL hE hO hq1 hq2 (by rw[←hp];exact s1) hpr hsem;rw[hme,hne,←hp,←hr]at hrep;have c1:=dW (g.app [P4,R4] (by simp[↓rbP,↓rbR])) e p r hn hm;have c2:=dW (g.app [R4,P4] (by simp[↓rbP,↓rbR])) e p r hn hm;rw[←dc g]at c1 c2
         have a1:=fun G=>congrArg (·++G) (dc g [P4,R4] (bF e p r (m*n))).symm
         have a2:=fun G=>congrArg (·++G) (dc g [R4,P4] (bF e p r (m*n))).symm
         simp only[bX]at c1 c2;refine⟨hK _ _ ?_,hK _ _ ?_⟩
         ·simp -implicitDefEqProofs -dsimp[hjb,hd',cT,cA,hh,show(a:Int)<32 by omega,y1,y2,kW,heq,z1,z2];refine aT.mono (K:=fun r' H'=>∃G,H'=He (H++[P4,R4]) b m n (bF e p r (m*n))++G) c1 ?_;rintro r' H' ⟨G,rfl⟩;simp -implicitDefEqProofs -dsimp[];refine hQ4 _ _ _ ?_;simp -implicitDefEqProofs -dsimp[];refine hQ3 _ _ _ ?_;simp -implicitDefEqProofs -dsimp[];refine hQ2 _ _ _ ?_;simp -implicitDefEqProofs -dsimp[];refine hQ _ _ _ ?_;simp -implicitDefEqProofs -dsimp[];exact .inr (.inr ⟨rfl,_,_,by rw[hme,hne];exact(a1 G).trans (List.append_assoc _ _ _),by simpa only[hme,hne] using hrep⟩)
         ·simp -implicitDefEqProofs -dsimp[hjb,hd',cT,cA,hh,show(a:Int)<32 by omega,y3,y4,kW,heq,z1,z2];refine aT.mono (K:=fun r' H'=>∃G,H'=He (H++[R4,P4]) b m n (bF e p r (m*n))++G) c2 ?_;rintro r' H' ⟨G,rfl⟩;simp -implicitDefEqProofs -dsimp[];refine hQ4 _ _ _ ?_;simp -implicitDefEqProofs -dsimp[];refine hQ3 _ _ _ ?_;simp -implicitDefEqProofs -dsimp[];refine hQ2 _ _ _ ?_;simp -implicitDefEqProofs -dsimp[];refine hQ _ _ _ ?_;simp -implicitDefEqProofs -dsimp[];exact .inr (.inr ⟨rfl,_,_,by rw[hme,hne];exact(a2 G).trans (List.append_assoc _ _ _),by simpa only[hme,hne] using hrep⟩)
     ·obtain rfl:a=n:=by omega
      refine wx ?_;simp -implicitDefEqProofs -dsimp[hout,hol,hib,hog,hrow,hrl,hab];refine hQ4 _ _ _ ?_;simp -implicitDefEqProofs -dsimp[aJ k (by omega)];refine hN3 (k+1) _ _ ⟨by omega,fun k' hk'=>?_⟩ (by omega) (by simp) ⟨[],by simp⟩ (by simp[hkl]) hrb
      rcases Nat.lt_or_ge k' k with h1 | h1
      ·exact hx3 k' h1
      ·have:k'=k:=by omega
       subst this;intro _;rw[hne];exact hx4
   ·obtain rfl:k=i:=by omega
    refine wx ?_;simp -implicitDefEqProofs -dsimp[hkb];refine hQ3 _ _ _ ?_;simp -implicitDefEqProofs -dsimp[aJ k (by omega)];refine hN2 (k+1) _ _ ⟨by omega,fun i' k' hi' hk'=>?_⟩ (by omega) (by simp) ⟨[],by simp⟩ (by simp[hkl]) hrb
    rcases Nat.lt_or_ge i' k with h1 | h1
    ·exact hx2 i' k' h1 hk'
    ·have:i'=k:=by omega
     subst this;exact hx3 k' hk'
  ·obtain rfl:i=m:=by omega
   refine wx ?_;simp -implicitDefEqProofs -dsimp[hout,hol,hib];refine hQ2 _ _ _ ?_;simp -implicitDefEqProofs -dsimp[aJ j (by omega)];refine hN (j+1) _ _ ⟨by omega,fun d' hd'=>?_⟩ (by omega) (by simp) ⟨[],by simp⟩ (by simp[hkl]) hrb;rw[List.take_succ_eq_append_getElem hjb]at hd'
   rcases List.mem_append.1 hd' with h1 | h1
   ·exact hx d' h1
   ·simp only[List.mem_singleton]at h1;rw[h1,←hd];exact hx2
 ·obtain rfl:j=fds.length:=by omega
  rw[List.take_length]at hx;refine wx ?_;simp -implicitDefEqProofs -dsimp[hjb];refine hQ _ _ _ ?_;simp -implicitDefEqProofs -dsimp[];exact .inl ⟨rfl,hclo (by rw[hme];exact hx),[],by rw[hme,hne,List.append_nil]⟩
open Classical in
noncomputable def cy(t:Tb)(l:List Cr):Nat→Nat
 | 0=>0
 | x+1=>if bP t x∈l then cy t l x+1 else cy t l x
theorem mW(t:Tb)(l:List Cr):∀x,cy t l x≤x
 | 0=>Nat.le_refl _
 | x+1=>by
  have:=mW t l x;rw[cy];split<;>omega
theorem qN(t:Tb)(l:List Cr){x y:Nat}(h:x≤y):cy t l x≤cy t l y:=by
 induction y with
 | zero =>
  have:x=0:=by omega
  subst this;exact Nat.le_refl _
 | succ y ih =>
  rcases Nat.lt_or_ge x (y+1) with h1 | h1
  ·have:=ih (by omega);rw[cy];split<;>omega
  ·have:x=y+1:=by omega
   subst this;exact Nat.le_refl _
open Classical in
noncomputable def e0(t:Tb)(l:List Cr)(x:Nat):En:=if bP t x∈l then⟨zV,(cy t l x+1:Nat)⟩ else⟨bC t x,0⟩
theorem mO{t:Tb}{l:List Cr}{x:Nat}(h:bP t x∈l):e0 t l x=⟨zV,((cy t l x+1:Nat):Int)⟩∧cy t l (x+1)=cy t l x+1:=by
 unfold e0;rw[if_pos h,cy,if_pos h];exact⟨rfl,rfl⟩
theorem lC{t:Tb}{l:List Cr}{x:Nat}(h:bP t x∉l):e0 t l x=⟨bC t x,0⟩∧cy t l (x+1)=cy t l x:=by
 unfold e0;rw[if_neg h,cy,if_neg h];exact⟨rfl,rfl⟩
theorem e0_ok(t:Tb)(l:List Cr)(N:Nat):EnOk (e0 t l) N N:=by
 refine⟨fun x hx=>?_,fun x hx=>?_,fun x hx=>?_⟩<;>by_cases h:bP t x∈l
 ·rw[(mO h).1];simp only;omega
 ·rw[(lC h).1];simp
 ·rw[(mO h).1];simp only;have:=mW t l x;omega
 ·rw[(lC h).1];simp
 ·rw[(mO h).1];intro _;rfl
 ·rw[(lC h).1];intro h2;exact absurd rfl h2
theorem e0_ent(t:Tb)(fds:List Fd)(l:List Cr):Ent (aS t fds l) (fun x=>toD (e0 t l x)):=by
 refine ent_init (fun x v hx hk=>?_) (fun x hx hk=>?_) (fun x y s hx hy h1 h2=>?_)
 ·by_cases h:bP t x∈l
  ·rw[lT h]at hk;cases hk
  ·rw[ef h]at hk;show toD (e0 t l x)=_;rw[(lC h).1];simp[toD,Option.some.inj hk]
 ·by_cases h:bP t x∈l
  ·exact⟨cy t l x+1,by show toD (e0 t l x)=_;rw[(mO h).1];simp[toD];omega⟩
  ·rw[ef h]at hk;cases hk
 ·have key:∀z,toD (e0 t l z)= .inr s→s=cy t l z+1∧bP t z∈l:=fun z hz=>by
   by_cases h:bP t z∈l
   ·rw[(mO h).1]at hz;unfold toD at hz;rw[if_neg (by simp only;omega)]at hz;exact⟨by have:=Sum.inr.inj hz;simp at this;omega,h⟩
   ·rw[(lC h).1]at hz;simp[toD]at hz
  obtain⟨a1,a2⟩:=key x h1;obtain⟨b1,b2⟩:=key y h2
  rcases Nat.lt_trichotomy x y with h | h | h
  ·have:=qN t l (show x+1≤y by omega);have:=(mO a2).2;omega
  ·exact h
  ·have:=qN t l (show y+1≤x by omega);have:=(mO b2).2;omega
theorem dG{xs:List B}{k:Nat}{x:B}(h:xs[k]?=some x):∀hk:k<xs.length,xs[k]=x:=fun hk=>by
 rw[List.getElem?_eq_getElem hk]at h;exact Option.some.inj h
def rowB(e:Nat→En)(n i:Nat):B:=.buf 117 4 (dR e n i) false
def outB(i n:Nat):B:=.buf 115 1 (eh 2 i n) false
def eU(e:Nat→En)(n i a:Nat):List V:=(List.range a).map fun c=>bX (e (i*n+c))
theorem parE_succ(e:Nat→En)(n i a:Nat):eU e n i (a+1)=eU e n i a++[bX (e (i*n+a))]:=by simp[eU,List.range_succ]
theorem parE_len(e:Nat→En)(n i a:Nat):(eU e n i a).length=a:=by simp[eU]
theorem outE_succ(b i n:Nat):eh b (i+1) n=eh b i n++[.buf (b+i) 0 n n]:=by simp[eh,List.range_succ]
def HR(tb:B)(e:Nat→En)(n i:Nat):List B:=[tb,outB i n]++(List.range i).map (rowB e n)
theorem fE(tb:B)(e:Nat→En)(n i:Nat):(HR tb e n i).length=2+i:=by simp[HR];omega
theorem hr_0(tb:B)(e:Nat→En)(n i:Nat)(G:List B):(HR tb e n i++G)[0]?=some tb:=by simp[HR]
theorem hr_1(tb:B)(e:Nat→En)(n i:Nat)(G:List B):(HR tb e n i++G)[1]?=some (.buf 115 1 (eh 2 i n) false):=by simp[HR,outB]
theorem hr_00(tb:B)(e:Nat→En)(n i:Nat):(HR tb e n i)[0]?=some tb:=by simp[HR]
theorem hr_11(tb:B)(e:Nat→En)(n i:Nat):(HR tb e n i)[1]?=some (.buf 115 1 (eh 2 i n) false):=by simp[HR,outB]
theorem hr_x(tb:B)(e:Nat→En)(n i:Nat)(X:B):(HR tb e n i++[X])[2+i]?=some X:=by
 rw[List.getElem?_append_right (by rw[fE];omega),fE];simp
theorem hr_sx(tb:B)(e:Nat→En)(n i:Nat)(X Y:B):(HR tb e n i++[X]).set (2+i) Y=HR tb e n i++[Y]:=by
 rw[List.set_append_right _ _ (by rw[fE];omega),fE];simp
theorem hr_next(tb:B)(e:Nat→En)(n i:Nat):(HR tb e n i++[B.buf 117 4 (eU e n i n) false]).set 1 (B.buf 115 1 (eh 2 i n++[V.buf (2+i) 0 n n]) false)=HR tb e n (i+1):=by
 rw[←outE_succ];simp[HR,List.range_succ,outB,rowB,dR,eU]
theorem parE_pure(e:Nat→En)(n i a:Nat):∀x∈eU e n i a,AM.Pure x∧dm x=true:=by
 intro x hx;obtain⟨c,_,rfl⟩:=List.mem_map.1 hx;exact⟨encEn_pure _,rfl⟩
theorem hr_rb{tb:B}(hb:∀k,rbB k tb)(e:Nat→En)(n i:Nat):∀bl∈HR tb e n i,rbB (HR tb e n i).length bl:=by
 intro bl hbl;rw[fE];unfold HR at hbl;simp only[List.cons_append,List.nil_append,List.mem_cons,List.mem_map,List.mem_range]at hbl
 rcases hbl with rfl | rfl | ⟨j,hj,rfl⟩
 ·exact hb _
 ·intro x hx c hc;obtain⟨j,hj,rfl⟩:=List.mem_map.1 hx;have hj:=List.mem_range.1 hj;simp[V.cells]at hc;subst hc;show 2+j<2+i;omega
 ·unfold rowB;rw[rbB_buf1 (iI e n _)];trivial
theorem hr_ok{tb:B}(hb:∀k,rbB k tb)(e:Nat→En)(n m:Nat):EOk (HR tb e n m) 1 2 m n:=⟨hr_11 tb e n m,by rw[fE];omega,by omega,hr_rb hb e n m⟩
theorem hr_he{tb:B}(e:Nat→En)(n m:Nat):He (HR tb e n m) 2 m n e=HR tb e n m:=by
 apply List.ext_getElem?;intro k;unfold He;rw[List.getElem?_map,fE];by_cases hk:k<2+m
 ·rw[List.getElem?_range hk,Option.map_some];by_cases h2:2≤k
  ·rw[if_pos ⟨h2,hk⟩];unfold HR;rw[List.getElem?_append_right (by simpa using h2)];simp only[List.length_cons,List.length_nil];rw[List.getElem?_map,List.getElem?_range (by omega)];rfl
  ·rw[if_neg (fun h=>h2 h.1),List.getElem?_eq_getElem (by rw[fE];exact hk)];rfl
 ·rw[List.getElem?_eq_none (by simp;omega),List.getElem?_eq_none (by rw[fE];omega)];rfl
def FilR(q:Prob)(tb:B)(e0:Nat→En)(r:V)(H':List B):Prop :=
 (r = .tup [.nilS,.bool false]∧¬Okq q)∨
 (r = .tup [.buf 1 0 q.m q.m,.bool true]∧∃e G,H'=He (HR tb e0 q.n q.m) 2 q.m q.n e++G∧Ent q (fun x=>toD (e x))∧EnOk e (q.m*q.n) (q.m*q.n)∧fX q (fun x=>toD (e x)))
theorem cap40(n:Nat)(h:n≤1000000000):n≤9223372036854775806∧(n+1)*40≤140737488355328:=by omega
theorem filled_r(t:Tb)(ff gg df cf:Bool)(fds:List Fd)(l:List Cr)(hv:TbV t)(hF:bU fds)(hl:l.length≤1000000):
  bA Tryz.prog 45 [aG ff gg t,LF df fds,LC cf l] [] (FilR (aS t fds l) (.cells [.str t.name,.lst 1 ff (t.attrs.map V.str),.lst 2 gg (t.rows.map aL)]) (e0 t l)):=by
 obtain⟨tb,htb⟩:∃tb,tb=B.cells [.str t.name,.lst 1 ff (t.attrs.map V.str),.lst 2 gg (t.rows.map aL)]:=⟨_,rfl⟩
 have hbt:∀k,rbB k tb:=fun k=>by rw[htb];simp
 rw[←htb];have hm:=hv.rows;have hn:=hv.attrs;have hE0:=e0_ent t fds l;have hO0:=e0_ok t l (t.rows.length*t.attrs.length);obtain⟨n,hne⟩:∃n,n=t.attrs.length:=⟨_,rfl⟩;obtain⟨m,hme⟩:∃m,m=t.rows.length:=⟨_,rfl⟩;have hne':=hne.symm;have hme':=hme.symm;rw[hne']at hn;rw[hme']at hm;have hqm:(aS t fds l).m=m:=hme';have hqn:(aS t fds l).n=n:=hne';have hqf:(aS t fds l).fds=fds:=rfl;have hO:EnOk (e0 t l) ((aS t fds l).m*(aS t fds l).n) ((aS t fds l).m*(aS t fds l).n):=hO0;obtain⟨q,hq⟩:∃q,q=aS t fds l:=⟨_,rfl⟩;rw[←hq]at hqm hqn hqf hE0 hO ⊢
 have hb00:=fun e n i=>hr_00 tb e n i
 have hb0:=fun e n i G=>hr_0 tb e n i G
 rw[htb]at hb00 hb0;rw[←htb]at hb00 hb0;have t0:=hr_00 tb (e0 t l) n;have t0':=hr_0 tb (e0 t l) n;rw[show some tb=some (B.cells [.str t.name,.lst 1 ff (t.attrs.map V.str),.lst 2 gg (t.rows.map aL)]) by rw[htb]]at t0 t0';have t1:=hr_11 tb (e0 t l) n;have t1':=hr_1 tb (e0 t l) n;have tl:=fE tb (e0 t l) n
 have t1l:=fun i=>eL 2 i n
 refine aD tok Tryz.func45 rfl rfl ?_;refine wx ?_;simp -implicitDefEqProofs -dsimp[Tryz.f45,List.replicate,aG,LS,LR,LC,LF];refine aK (eY 115 1 [8] (by simp) (W_loopM 61 [8,9,10,11,12,13,14,15,16,17,18,19,20,21,22,23,24,25,26,27,28,29,30,31,32,33,34,35,36,37,38,39,40,41,42,43,44,45,46,47,48,49,50,51,52,53,54,55,56,57,58,59,60] (by simp[mB]<;>rfl) (σ:=Nat×Nat) (fun p=>p.1≤m∧p.2=p.1*n) (fun p=>m-p.1) (fun p=>[(10,.int .i64 p.1),(8,.buf 1 0 p.1 p.1),(9,.int .i64 (cy t l p.2))]) (fun p=>HR tb (e0 t l) n p.1) (0,0) ⟨by simp,by simp⟩ (by simp[cy]) (by simp[HR,outB,eh,htb]) (by simp[tl]) ?_));rintro⟨i,c⟩ ⟨hi,hc⟩ N Q hN hQ;simp only at hi hc hN;by_cases hib:i<m
 ·have hit:i<t.rows.length:=by omega
  obtain⟨rw,hrw⟩:∃rw,rw=t.rows[i]:=⟨_,rfl⟩;have hrw':=hrw.symm
  have hvl:rw.vals.length=n:=by rw[hrw,hne];exact hv.len _ (List.getElem_mem hit)
  refine wx ?_;simp -implicitDefEqProofs -dsimp[t0,hme',hib];refine aK (eY 117 4 [11] (by simp) (W_loopM 57 [9,11,12,20,21,22,23,24,25,26,27,28,29,30,31,32,33,34,35,36,37,38,39,40,41,42,43,44,45,46,47,48,49,50,51,52,53,54,55,56] (by simp[mB]<;>rfl) (σ:=Nat×Nat) (fun p=>p.1≤n∧p.2=i*n+p.1) (fun p=>n-p.1) (fun p=>[(12,.int .i64 p.1),(11,.buf (2+i) 0 p.1 p.1),(9,.int .i64 (cy t l p.2))]) (fun p=>HR tb (e0 t l) n i++[B.buf 117 4 (eU (e0 t l) n i p.1) false]) (0,c) ⟨by simp,by simp[hc]⟩ (by simp[tl]) (by simp[eU]) (by simp[tl]) ?_));rintro⟨a,c2⟩ ⟨ha,hc2⟩ N2 Q2 hN2 hQ2;simp only at ha hc2 hN2
  have hrb2:∀a',∀bl∈HR tb (e0 t l) n i++[B.buf 117 4 (eU (e0 t l) n i a') false],rbB (HR tb (e0 t l) n i++[B.buf 117 4 (eU (e0 t l) n i a') false]).length bl:=fun a' bl hbl=>by
   rcases List.mem_append.1 hbl with h | h
   ·exact eK (by simp) (hr_rb hbt (e0 t l) n i bl h)
   ·simp only[List.mem_singleton]at h;subst h;rw[rbB_buf1 (parE_pure _ _ _ _)];trivial
  have w0:=dG (t0' i [B.buf 117 4 (eU (e0 t l) n i a) false]);have w1:=dG (t1' i [B.buf 117 4 (eU (e0 t l) n i a) false]);have w1x:=dG (hr_x tb (e0 t l) n i (B.buf 117 4 (eU (e0 t l) n i a) false));by_cases hab:a<n
  ·have hlt:=aq hib hab;have hbig:m*n≤1000*16:=Nat.mul_le_mul hm hn
   have hat:bP t c2=⟨rw.id,(a:Int)⟩:=by
    rw[hc2,hne,fS t (hne▸hab),av hit,←hrw]
   have hva:a<rw.vals.length:=by omega
   have hvt:bC t c2=rw.vals[a]:=by
    rw[hc2,hne,dr t (hne▸hab),av hit,←hrw,fC hva]
   have hch:=nn l ⟨rw.id,(a:Int)⟩ cf hl;simp only[LC,aN]at hch;have hx:=hr_x tb (e0 t l) n i (B.buf 117 4 (eU (e0 t l) n i a) false)
   have hsx:=fun Y=>hr_sx tb (e0 t l) n i (B.buf 117 4 (eU (e0 t l) n i a) false) Y
   have hpl:=parE_len (e0 t l) n i a;have hps:=parE_succ (e0 t l) n i a;rw[←hc2]at hps;have hcn:=mW t l c2
   cases hqh:eA l ⟨rw.id,(a:Int)⟩ with
   | true =>
    rw[hqh]at hch;obtain⟨k1,k2⟩:=mO (t:=t) (l:=l) (x:=c2) (by rw[hat];exact bW.1 hqh);rw[k1]at hps;obtain⟨cn,hcn'⟩:∃cn,cn=cy t l c2:=⟨_,rfl⟩;rw[←hcn']at hps k2 hcn;have hcn2:=hcn'.symm;refine wx ?_;simp -implicitDefEqProofs -dsimp[w0,tl,hne',hab,hit,hrw',aL,hcn2];refine(aF (hch) (by simp)).mono ?_;rintro r H' ⟨rfl,rfl⟩;simp -implicitDefEqProofs -dsimp[hcn2,aJ cn (by omega),w1x,tl,hx,hsx,hpl,cap40 a (by omega),aJ a (by omega)];refine hN2 (a+1,c2+1) _ _ ⟨by simp only;omega,by simp only;omega⟩ (by simp only;omega) (by simp[k2]) ⟨[],by simp[hps,bX,zV]⟩ (by simp[tl,LC];omega) (hrb2 _)
   | false =>
    rw[hqh]at hch;obtain⟨k1,k2⟩:=lC (t:=t) (l:=l) (x:=c2) (by rw[hat];exact fun h=>by rw[bW.2 h]at hqh;cases hqh);rw[k1,hvt]at hps;refine wx ?_;simp -implicitDefEqProofs -dsimp[w0,tl,hne',hab,hit,hrw',aL];refine(aF (hch) (by simp)).mono ?_;rintro r H' ⟨rfl,rfl⟩;simp -implicitDefEqProofs -dsimp[w0,tl,w1x,hit,hrw',aL,LV,hva,ap,hx,hsx,hpl,cap40 a (by omega),aJ a (by omega)];refine hN2 (a+1,c2+1) _ _ ⟨by simp only;omega,by simp only;omega⟩ (by simp only;omega) (by simp[k2]) ⟨[],by simp[hps,bX]⟩ (by simp[tl,LC];omega) (hrb2 _)
  ·obtain rfl:a=n:=by omega
   have hnx:=hr_next tb (e0 t l) a i;refine wx ?_;simp -implicitDefEqProofs -dsimp[w0,tl,hne',hab];refine hQ2 _ _ _ ?_;simp -implicitDefEqProofs -dsimp[w1,t1',tl,t1l,cap24 i (by omega),hnx,aJ i (by omega)];refine hN (i+1,c2) _ _ ⟨by simp only;omega,by simp only;rw[hc2,Nat.add_mul];omega⟩ (by simp only;omega) (by simp) ⟨[],by simp⟩ (by simp[tl,LC];omega) (hr_rb hbt _ _ _)
 ·have him:i=m:=by omega
  subst him;have gH:=hr_ok hbt (e0 t l) n i;have hFq:bU q.fds:=hqf▸hF;refine wx ?_;simp -implicitDefEqProofs -dsimp[t0,hme',hib];refine hQ _ _ _ ?_;simp -implicitDefEqProofs -dsimp[];refine aK (W_loopM 69 [6,7,61,62,63,64,65,66,67,68] (by simp[mB]<;>rfl) (σ:=Nat→En) (fun e=>Ent q (fun x=>toD (e x))∧EnOk e (q.m*q.n) (q.m*q.n)) (fun e=>oH (q.m*q.n) (q.m*q.n+1) (fun x=>toD (e x))) (fun _=>[]) (fun e=>He (HR tb (e0 t l) n i) 2 i n e) (e0 t l) ⟨hE0,hO⟩ (by simp) (by rw[hr_he]) (by simp[cO]) ?_);rintro e ⟨hE,hOe⟩ N2 Q2 hN2 hQ2;have cs:=step_r hqm hqn gH e hE hOe hn hm df hFq;rw[hqf]at cs;simp only[LF]at cs;refine wx ?_;simp -implicitDefEqProofs -dsimp[];refine aT.mono (K:=StepR q (HR tb (e0 t l) n i) 2 (q.m*q.n) e) cs ?_;rintro r' H' (⟨rfl,hcl,G,rfl⟩ | ⟨rfl,hno⟩ | ⟨rfl,e',G,rfl,h1,h2,h3⟩)
  ·simp -implicitDefEqProofs -dsimp[];refine hQ2 _ _ _ ?_;simp -implicitDefEqProofs -dsimp[];refine .inr ⟨by rw[hqm],e,G,by rw[hqm,hqn],hE,hOe,hcl⟩
  ·simp -implicitDefEqProofs -dsimp[];refine hQ2 _ _ _ ?_;simp -implicitDefEqProofs -dsimp[];exact .inl ⟨rfl,hno⟩
  ·simp -implicitDefEqProofs -dsimp[];refine hN2 e' _ _ ⟨h1,h2⟩ h3 (by simp) ⟨G,by rw[hqm,hqn]⟩ (by simp[cO,tl,LC];omega) (lq gH e')
theorem filled_p(t:Tb)(ff gg df cf:Bool)(fds:List Fd)(l:List Cr)(hv:TbV t)(hF:bU fds)(hl:l.length≤1000000):
  aR Tryz.prog 45 [aG ff gg t,LF df fds,LC cf l] fun r=>∃v,r = .tup [v,.bool (okB (aS t fds l))]:=by
 refine mT ((filled_r t ff gg df cf fds l hv hF hl).mono fun r H' h=>?_);obtain⟨q,hq⟩:∃q,q=aS t fds l:=⟨_,rfl⟩;rw[←hq]at h ⊢;obtain⟨tb,htb⟩:∃tb,tb=B.cells [.str t.name,.lst 1 ff (t.attrs.map V.str),.lst 2 gg (t.rows.map aL)]:=⟨_,rfl⟩;rw[←htb]at h
 have hbt:∀k,rbB k tb:=fun k=>by rw[htb];simp
 rcases h with⟨rfl,hno⟩ | ⟨rfl,e,G,rfl,h1,h2,h3⟩
 ·rw[mz hno];exact⟨.tup [.nilS,.bool false],.pure _ (by simp),by simp,.nilS,rfl⟩
 ·rw[pX ⟨_,h1.sol h3⟩];have gH:=hr_ok hbt (e0 t l) q.n q.m;have hlen:=cO (HR tb (e0 t l) q.n q.m) 2 q.m q.n e;refine⟨.tup [.lst 1 false ((List.range q.m).map fun j=>.lst 4 false (dR e q.n j)),.bool true],?_,?_,_,rfl⟩
  ·refine .tup _ _ rfl (fun i c d hc hd=>?_)
   match i with
   | 0 =>
    simp at hc hd;subst hc;subst hd
    have hk:(He (HR tb (e0 t l) q.n q.m) 2 q.m q.n e++G)[1]?=some (.buf 115 1 (eh 2 q.m q.n) false):=by
     rw[List.getElem?_append_left (by rw[hlen,fE];omega)];exact pq gH e
    have hx:=ExpX.bufx (H:=He (HR tb (e0 t l) q.n q.m) 2 q.m q.n e++G) 1 _ _ (eh 2 q.m q.n) ((List.range q.m).map fun j=>V.lst 4 false (dR e q.n j)) false hk (by simp[eL]) (fun j c d hc hd=>by
     by_cases hj:j<q.m
     ·simp[eh,hj]at hc hd;subst hc;subst hd
      have hr:(He (HR tb (e0 t l) q.n q.m) 2 q.m q.n e++G)[2+j]?=some (.buf 117 4 (dR e q.n j) false):=by
       rw[List.getElem?_append_left (by rw[hlen,fE];omega)];exact gw gH e hj
      have:=ExpX.buf (2+j) _ _ (dR e q.n j) false hr (fun x hx=>(iI e q.n j x hx).1);rw[cM]at this;exact this
     ·rw[List.getElem?_eq_none (by rw[eL];omega)]at hc;cases hc)
    rw[eL]at hx;exact hx
   | 1 =>
    simp at hc hd;subst hc;subst hd;exact .pure _ (by simp)
   | k+2=>simp at hc
  ·simp;intro j hj x hx;exact(iI e q.n j x hx).1
theorem enough_r(t:Tb)(ff gg df cf:Bool)(fds:List Fd)(l:List Cr)(hv:TbV t)(hF:bU fds)(hl:l.length≤1000000):
  aR Tryz.prog 17 [aG ff gg t,LF df fds,LC cf l] fun r=>r = .bool (okB (aS t fds l)):=by
 have c1:=filled_p t ff gg df cf fds l hv hF hl;simp only[aG,LS,LR,LC,LF]at c1;refine aC (aD tok Tryz.func17 rfl rfl ?_);refine wx ?_;simp -implicitDefEqProofs -dsimp[Tryz.f17,List.replicate,aG,LS,LR,LC,LF];refine(callK c1 (by simp)).mono ?_;rintro r H' ⟨rfl,_,v,rfl⟩;simp -implicitDefEqProofs -dsimp[]
end
def hasJ(b:Int)(i:Nat):Bool:=IntKind.i64.wrap ↑((b.fdiv (2^min i IntKind.i64.bits) % 2^IntKind.i64.bits).toNat &&& 1 % 2^IntKind.i64.bits)== 1
theorem hasJ_def(s:Int)(a:Nat):(IntKind.i64.wrap ↑((s.fdiv (2^min a IntKind.i64.bits) % 2^IntKind.i64.bits).toNat &&& 1 % 2^IntKind.i64.bits)== 1)=hasJ s a:=rfl
def bN(t:Tb)(b:Int)(i:Nat):List Cr:=((List.range i).filter (hasJ b)).map (bP t)
theorem selTo_yes{t:Tb}{b:Int}{i:Nat}(h:hasJ b i=true):bN t b (i+1)=bN t b i++[bP t i]:=by
 unfold bN;rw[List.range_succ,List.filter_append];simp[h]
theorem selTo_no{t:Tb}{b:Int}{i:Nat}(h:hasJ b i=false):bN t b (i+1)=bN t b i:=by
 unfold bN;rw[List.range_succ,List.filter_append];simp[h]
theorem mt(t:Tb)(b:Int)(i:Nat):(bN t b i).length≤i:=by
 unfold bN;rw[List.length_map];exact Nat.le_trans (List.length_filter_le _ _) (by simp)
noncomputable def lsF(t:Tb)(fds:List Fd)(N:Nat):Nat→Nat
 | 0=>N
 | b+1=>if(bN t b N).length<lsF t fds N b∧okB (aS t fds (bN t b N))=true then(bN t b N).length else lsF t fds N b
theorem least_r(t:Tb)(ff gg df:Bool)(fds:List Fd)(hv:TbV t)(hF:bU fds)(hN:t.rows.length*t.attrs.length≤9):aR Tryz.prog 31 [aG ff gg t,LF df fds] fun r=>r = .int .i64 (lsF t fds (t.rows.length*t.attrs.length) (2^(t.rows.length*t.attrs.length)):Nat):=by
 have c1:=ol t ff gg (by have:=hv.rows;omega) (by have:=hv.attrs;omega);obtain⟨all,hall⟩:∃all,all=ak t:=⟨_,rfl⟩
 have hlen:all.length=t.rows.length*t.attrs.length:=by rw[hall,gO]
 have hat:∀i (h:i<all.length),all[i]=bP t i:=fun i h=>by subst hall;exact cellsT_at h
 rw[←hall]at c1;rw[←hlen]at hN ⊢;obtain⟨n,hnn⟩:∃n,n=all.length:=⟨_,rfl⟩;rw[←hnn]at hN ⊢;have hnn':=hnn.symm
 have hp9:2^n≤512:=by have:=Nat.pow_le_pow_right (n:=2) (by omega) hN;simpa using this
 have hcast:(2:Int)^n=((2^n:Nat):Int):=by push_cast;rfl
 have hsh:IntKind.i64.wrap (2^min n IntKind.i64.bits)=((2^n:Nat):Int):=by
  rw[show min n IntKind.i64.bits=n by simp[IntKind.bits];omega,hcast];exact iD _ (by omega)
 obtain⟨M,hM⟩:∃M,M=2^n:=⟨_,rfl⟩;rw[←hM]at hsh hp9 ⊢
 have hls:∀b,lsF t fds n b≤n:=fun b=>by
  induction b with
  | zero=>exact Nat.le_refl _
  | succ b ih=>rw[lsF];split;exact mt t b n;exact ih
 simp only[aG,LS,LR,LC,LF]at c1;refine aC (aD tok Tryz.func31 rfl rfl ?_);refine wx ?_;simp -implicitDefEqProofs -dsimp[Tryz.f31,List.replicate,aG,LS,LR,LC,LF];refine(aF (c1) (by simp)).mono ?_;rintro r H' ⟨rfl,rfl⟩;simp -implicitDefEqProofs -dsimp[];refine aK (W_loopM 51 [6,7,8,9,14,15,16,17,18,19,20,21,22,23,24,25,26,27,28,29,30,31,32,33,34,35,36,37,38,39,40,41,42,43,44,45,46,47,48,49,50] (by simp[mB]<;>rfl) (σ:=Nat) (fun b=>b≤M) (fun b=>M-b) (fun b=>[(7,.int .i64 b),(6,.int .i64 (lsF t fds n b:Nat))]) (fun _=>[B.cells [.str t.name,.lst 1 ff (t.attrs.map V.str),.lst 2 gg (t.rows.map aL)]]) 0 (by omega) (by simp[lsF,hnn']) (by simp) (by simp) ?_);intro b hb N Q hN1 hQ;by_cases hbM:b<M
 ·refine wx ?_;simp -implicitDefEqProofs -dsimp[hnn',hsh,show(b:Int)<M by omega,hbM];refine aK (eY 49 2 [8] (by simp) (W_loopM 39 [8,9,21,22,23,24,25,26,27,28,29,30,31,32,33,34,35,36,37,38] (by simp[mB]<;>rfl) (σ:=Nat) (fun i=>i≤n) (fun i=>n-i) (fun i=>[(9,.int .i64 i),(8,.buf 1 0 (bN t b i).length (bN t b i).length)]) (fun i=>[B.cells [.str t.name,.lst 1 ff (t.attrs.map V.str),.lst 2 gg (t.rows.map aL)],B.buf 49 2 ((bN t b i).map aN) false]) 0 (by omega) (by simp[bN]) (by simp[bN]) (by simp) ?_));intro i hi N2 Q2 hN2 hQ2;by_cases hbi:i<n
  ·have hb1:i<all.length:=by omega
   have h1:=hat i hb1;obtain⟨x,hx⟩:∃x,x=all[i]:=⟨_,rfl⟩;rw[←hx]at h1;have hx':=hx.symm;have hol:=mt t b i
   cases hq:hasJ b i with
   | true =>
    have hst:=selTo_yes (t:=t) hq;rw[←h1]at hst;refine wx ?_;simp -implicitDefEqProofs -dsimp[hb1,hnn',hbi,hx',aN,hasJ_def,hq,oA (bN t b i).length (by omega),aJ i (by omega)];refine hN2 (i+1) _ _ (by omega) (by omega) (by simp[hst]) ⟨[],by simp[hst,aN]⟩ (by simp) (by simp)
   | false =>
    have hst:=selTo_no (t:=t) hq;refine wx ?_;simp -implicitDefEqProofs -dsimp[hb1,hnn',hbi,hx',aN,hasJ_def,hq,aJ i (by omega)];refine hN2 (i+1) _ _ (by omega) (by omega) (by simp[hst]) ⟨[],by simp[hst]⟩ (by simp) (by simp)
  ·obtain rfl:n=i:=by omega
   have hsl:=mt t b n;have ce:=enough_r t ff gg df false fds (bN t b n) hv hF (by omega);simp only[aG,LS,LR,LF,LC]at ce;have hlsb:=hls b
   have hnx:lsF t fds n (b+1)=if(bN t b n).length<lsF t fds n b∧okB (aS t fds (bN t b n))=true then(bN t b n).length else lsF t fds n b:=rfl
   obtain⟨sl,hse⟩:∃sl,sl=bN t b n:=⟨_,rfl⟩;obtain⟨q,hqe⟩:∃q,q=okB (aS t fds (bN t b n)):=⟨_,rfl⟩;obtain⟨z,hze⟩:∃z,z=lsF t fds n b:=⟨_,rfl⟩;rw[←hqe]at ce hnx;rw[←hse]at ce hnx hsl ⊢;rw[←hze]at hnx hlsb ⊢;refine qb 1 [8] rfl (by simp) ?_;by_cases hlt:sl.length<z
   ·have hlt2:(sl.length:Int)<(z:Int):=by omega
    cases q with
    | true =>
     rw[if_pos ⟨hlt,rfl⟩]at hnx;refine wx ?_;simp -implicitDefEqProofs -dsimp[hnn',Nat.lt_irrefl];refine hQ2 _ _ _ ?_;simp -implicitDefEqProofs -dsimp[hlt,hlt2];refine(aF (ce) (by simp)).mono ?_;rintro r H' ⟨rfl,rfl⟩;simp -implicitDefEqProofs -dsimp[aJ b (by omega)];refine hN1 (b+1) _ _ (by omega) (by omega) (by simp[hnx,hnn']) ⟨_,rfl⟩ (by simp) (by simp)
    | false =>
     rw[if_neg (by simp)]at hnx;refine wx ?_;simp -implicitDefEqProofs -dsimp[hnn',Nat.lt_irrefl];refine hQ2 _ _ _ ?_;simp -implicitDefEqProofs -dsimp[hlt,hlt2];refine(aF (ce) (by simp)).mono ?_;rintro r H' ⟨rfl,rfl⟩;simp -implicitDefEqProofs -dsimp[aJ b (by omega)];refine hN1 (b+1) _ _ (by omega) (by omega) (by simp[hnx,hnn']) ⟨_,rfl⟩ (by simp) (by simp)
   ·rw[if_neg (fun h=>hlt h.1)]at hnx;refine wx ?_;simp -implicitDefEqProofs -dsimp[hnn',Nat.lt_irrefl];refine hQ2 _ _ _ ?_;simp -implicitDefEqProofs -dsimp[hlt,show ¬(sl.length:Int)<(z:Int) by omega,aJ b (by omega)];refine hN1 (b+1) _ _ (by omega) (by omega) (by simp[hnx,hnn']) ⟨_,rfl⟩ (by simp) (by simp)
 ·obtain rfl:M=b:=by omega
  refine wx ?_;simp -implicitDefEqProofs -dsimp[hnn',hsh,show ¬(M:Int)<M by omega];refine hQ _ _ _ ?_;simp -implicitDefEqProofs -dsimp[]
theorem lsF_le{t:Tb}{fds:List Fd}{N:Nat} : ∀(B b:Nat),b<B→okB (aS t fds (bN t b N))=true→lsF t fds N B≤(bN t b N).length
 | 0,b,h,_=>by omega
 | B+1,b,h,hok=>by
  have hd:lsF t fds N (B+1)=if(bN t B N).length<lsF t fds N B∧okB (aS t fds (bN t B N))=true then(bN t B N).length else lsF t fds N B:=rfl
  rw[hd];by_cases e:b=B
  ·subst e;split
   ·exact Nat.le_refl _
   ·rename_i h2;by_cases h3:(bN t b N).length<lsF t fds N b
    ·exact absurd ⟨h3,hok⟩ h2
    ·omega
  ·have ih:=lsF_le B b (by omega) hok;split
   ·rename_i h2;omega
   ·exact ih
theorem lsF_at{t:Tb}{fds:List Fd}{N:Nat} : ∀B:Nat,lsF t fds N B=N∨∃b,b<B∧okB (aS t fds (bN t b N))=true∧lsF t fds N B=(bN t b N).length
 | 0=>.inl rfl
 | B+1=>by
  have hd:lsF t fds N (B+1)=if(bN t B N).length<lsF t fds N B∧okB (aS t fds (bN t B N))=true then(bN t B N).length else lsF t fds N B:=rfl
  by_cases h:(bN t B N).length<lsF t fds N B∧okB (aS t fds (bN t B N))=true
  ·rw[hd,if_pos h];exact .inr ⟨B,by omega,h.2,rfl⟩
  ·rw[hd,if_neg h]
   rcases lsF_at (t:=t) (fds:=fds) (N:=N) B with h2 | ⟨b,h1,h2,h3⟩
   ·exact .inl h2
   ·exact .inr ⟨b,by omega,h2,h3⟩
theorem hasJ_all:∀b:Fin 512,∀i:Fin 9,hasJ (b.val:Int) i.val=b.val.testBit i.val:=of_decide_eq_true (by kernel_rfl)
theorem hasJ_bit{b i:Nat}(hb:b<512)(hi:i<9):hasJ (b:Int) i=b.testBit i:=hasJ_all ⟨b,hb⟩ ⟨i,hi⟩
def bnF(P:Nat→Bool):Nat→Nat
 | 0=>0
 | n+1=>bnF P n+if P n=true then 2^n else 0
theorem bnF_lt(P:Nat→Bool):∀n,bnF P n<2^n
 | 0=>by simp[bnF]
 | n+1=>by
  have:=bnF_lt P n;rw[bnF,Nat.pow_succ];split<;>omega
theorem mh(P:Nat→Bool):∀n i,i<n→(bnF P n).testBit i=P i
 | 0,i,h=>by omega
 | n+1,i,h=>by
  have hl:=bnF_lt P n;rw[bnF];by_cases hp:P n=true
  ·rw[if_pos hp,Nat.add_comm];by_cases e:i=n
   ·subst e;rw[Nat.testBit_two_pow_add_eq,Nat.testBit_lt_two_pow hl,hp];rfl
   ·rw[Nat.testBit_two_pow_add_gt (by omega),mh P n i (by omega)]
  ·rw[if_neg hp,Nat.add_zero];by_cases e:i=n
   ·subst e;rw[Nat.testBit_lt_two_pow hl];cases h2:P i
    ·rfl
    ·exact absurd h2 hp
   ·exact mh P n i (by omega)
theorem sel_all{t:Tb}{N:Nat}(hN:N≤9)(P:Nat→Bool):∃b:Nat,b<2^N∧bN t (b:Int) N=((List.range N).filter P).map (bP t):=by
 have hp:2^N≤512:=by have:=Nat.pow_le_pow_right (n:=2) (by omega) hN;simpa using this
 have hl:=bnF_lt P N;refine⟨bnF P N,hl,?_⟩;unfold bN;congr 1;refine List.filter_congr (fun i hi=>?_);rw[List.mem_range]at hi;rw[hasJ_bit (by omega) (by omega),mh P N i hi]
def gQ(m:List Nat)(room:List Int):List Nat→Int→Int
 | [],a=>a
 | v::e,a=>gQ m room e (if m.getD v 0=0 then min a (room.getD v 0) else a)
def mq(a:Int):List Nat→List Int→List Int
 | [],rm=>rm
 | v::e,rm=>mq a e (rm.set v (rm.getD v 0-a))
def dS(m:List Nat):List (List Nat)→Nat→List Int→List Shr×Int
 | [],_,_=>([],0)
 | e::es,i,room =>
  if gE m 1 e=true then dS m es (i+1) room
  else if gQ m room e 1000000=0 then dS m es (i+1) room
  else(⟨i,gQ m room e 1000000⟩::(dS m es (i+1) (mq (gQ m room e 1000000) e room)).1,gQ m room e 1000000+(dS m es (i+1) (mq (gQ m room e 1000000) e room)).2)
def brE(m:List Nat):List Nat→List Int→Int→List Int×Int
 | [],c,b=>(c,b)
 | v::e,c,b =>
  if m.getD v 0=0 then brE m e (c.set v (c.getD v 0+1)) (if b<0∨(c.set v (c.getD v 0+1)).getD b.toNat 0<c.getD v 0+1 then(v:Int) else b)
  else brE m e c b
def brF(m:List Nat):List (List Nat)→List Int→Int→Int
 | [],_,b=>b
 | e::es,c,b=>if gE m 1 e=true then brF m es c b else brF m es (brE m e c b).1 (brE m e c b).2
def eV(ws:List Int)(es:List (List Nat))(m:List Nat):List Shr×Int:=dS m es 0 ws
def brS(es:List (List Nat))(m:List Nat):Int:=brF m es (List.replicate m.length 0) (-1)
def iK(ws:List Int)(es:List (List Nat)):Nat→List Nat→Int→Int→Option (List Nde×Int)
 | 0,_,_,_=>none
 | k+1,m,lf,b =>
  if lf-1<0 then none
  else if b≤0∨gM m es=true then some ([⟨-1,[]⟩],lf-1)
  else if b≤(eV ws es m).2 then some ([⟨-1,(eV ws es m).1⟩],lf-1)
  else if brS es m<0 then none
  else match iK ws es k (m.set (brS es m).toNat 1) (lf-1) (b-ws.getD (brS es m).toNat 0) with
   | none=>none
   | some p=>match iK ws es k (m.set (brS es m).toNat 2) p.2 b with
    | none=>none
    | some q=>some (⟨brS es m,[]⟩::(p.1++q.1),q.2)
def chosenL(m:List Nat):List Nat:=(List.range m.length).filter fun v=>decide (m.getD v 0=1)
structure Bst where
 l:List Nat
 w:Int
def nC(ws:List Int)(es:List (List Nat)):Nat→List Nat→Int→Bst→Int→Option (Int×Bst)
 | 0,_,_,_,_=>none
 | k+1,m,lf,b,w =>
  if lf-1<0 then none
  else if gM m es=true then some (lf-1,b)
  else if b.w≤w+(eV ws es m).2 then some (lf-1,b)
  else if brS es m<0 then some (lf-1,⟨chosenL m,w⟩)
  else match nC ws es k (m.set (brS es m).toNat 1) (lf-1) b (w+ws.getD (brS es m).toNat 0) with
   | none=>none
   | some p=>nC ws es k (m.set (brS es m).toNat 2) p.1 p.2 w
def dl(m:List Nat):Nat:=m.countP fun x=>decide (x=0)
def phi(m:List Nat)(T:Nat→Bool)(room:List Int):Nat→Int
 | 0=>0
 | n+1=>phi m T room n+if T n=true∧m.getD n 0=0 then room.getD n 0 else 0
def dv(ws:List Int)(T:Nat→Bool):Nat→Int
 | 0=>0
 | n+1=>dv ws T n+if T n=true then ws.getD n 0 else 0
structure Ext (n:Nat) (es:List (List Nat)) (m:List Nat) (T:Nat→Bool):Prop where
 c:∀v<n,m.getD v 0=1→T v=true
 x:∀v<n,m.getD v 0=2→T v=false
 h:∀e∈es,∃v∈e,T v=true
theorem lV{m:List Nat}{v c:Nat}(hv:v<m.length)(h0:m.getD v 0=0)(hc:c≠0):dl (m.set v c)+1=dl m:=by
 unfold dl;rw[List.countP_set hv]
 have e:m[v]=0:=by rwa [ah _ _ hv]at h0
 have hp:0<m.countP fun x=>decide (x=0):=List.countP_pos_iff.2 ⟨m[v],List.getElem_mem hv,by simp[e]⟩
 simp[e,hc];omega
theorem lU{m:List Nat}{v c:Nat}(T:Nat→Bool)(room:List Int)(hv:v<m.length)(h0:m.getD v 0=0)(hc:c≠0):∀n,phi (m.set v c) T room n=phi m T room n-if v<n∧T v=true then room.getD v 0 else 0
 | 0=>by simp[phi]
 | n+1=>by
  rw[phi,phi,lU T room hv h0 hc n];by_cases e:v=n
  ·subst e;rw[ac _ hv,h0];by_cases ht:T v=true<;>simp[hc,ht]
  ·rw[af _ e]
   have:(v<n+1∧T v=true)↔(v<n∧T v=true):=by constructor<;>rintro⟨a,b⟩<;>exact⟨by omega,b⟩
   simp only[this];omega
theorem kr{m:List Nat}{T:Nat→Bool}{room:List Int} : ∀n,(∀v<n,m.getD v 0=0→0≤room.getD v 0)→0≤phi m T room n
 | 0,_=>by simp[phi]
 | n+1,h=>by
  rw[phi]
  have:=kr (T:=T) n fun v hv h0=>h v (by omega) h0
  split
  ·have:=h n (by omega) (by rename_i hq;exact hq.2);omega
  ·omega
theorem phi_le{m:List Nat}{T:Nat→Bool}{room room':List Int}{a:Int}(ha:0≤a):∀n,(∀v<n,room'.getD v 0≤room.getD v 0)→phi m T room' n≤phi m T room n∧((∃u<n,T u=true∧m.getD u 0=0∧room'.getD u 0=room.getD u 0-a)→phi m T room' n≤phi m T room n-a)
 | 0,_=>⟨by simp[phi],by rintro⟨u,h,_⟩;omega⟩
 | n+1,h=>by
  obtain⟨i1,i2⟩:=phi_le (m:=m) (T:=T) ha n fun v hv=>h v (by omega)
  have hn:=h n (by omega);rw[phi,phi];refine⟨by split<;>omega,?_⟩;rintro⟨u,hu,h1,h2,h3⟩;by_cases e:u=n
  ·subst e;rw[if_pos ⟨h1,h2⟩,if_pos ⟨h1,h2⟩];omega
  ·have:=i2 ⟨u,by omega,h1,h2,h3⟩;split<;>omega
theorem lK(a:Int)(n:Nat):∀(e:List Nat) (rm:List Int),e.Pairwise (· < ·)→(∀v∈e,v<n)→rm.length=n →
  (mq a e rm).length=n∧∀v,(mq a e rm).getD v 0=rm.getD v 0-if v∈e then a else 0
 | [],rm,_,_,hl=>⟨hl,by simp[mq]⟩
 | v::e,rm,hp,hn,hl=>by
  obtain⟨hp1,hp2⟩:=List.pairwise_cons.1 hp
  have hv:v<rm.length:=by rw[hl];exact hn v (by simp)
  rw[mq];obtain⟨h1,h2⟩:=lK a n e (rm.set v (rm.getD v 0-a)) hp2 (fun u hu=>hn u (by simp[hu])) (by simp[hl]);refine⟨h1,fun u=>?_⟩;rw[h2 u];by_cases e1:v=u
  ·subst e1;rw[ac _ hv,if_neg (fun hu=>by have:=hp1 v hu;omega)];simp
  ·rw[af _ e1]
   have:(u∈v::e)↔u∈e:=by simp;omega
   simp only[this]
theorem amt_spec(m:List Nat)(room:List Int):∀(e:List Nat) (a:Int),gQ m room e a≤a∧(∀v∈e,m.getD v 0=0→gQ m room e a≤room.getD v 0)∧(0≤a→(∀v∈e,m.getD v 0=0→0≤room.getD v 0)→0≤gQ m room e a)
 | [],a=>⟨by simp[gQ],by simp,by simp[gQ]⟩
 | v::e,a=>by
  rw[gQ];obtain⟨h1,h2,h3⟩:=amt_spec m room e (if m.getD v 0=0 then min a (room.getD v 0) else a);refine⟨?_,fun u hu h0=>?_,fun ha hr=>h3 ?_ fun u hu=>hr u (by simp[hu])⟩
  ·have h4:(if m.getD v 0=0 then min a (room.getD v 0) else a)≤a:=by split<;>omega
   omega
  ·rcases List.mem_cons.1 hu with rfl | hu
   ·rw[if_pos h0]at h1 ⊢;omega
   ·exact h2 u hu h0
  ·split
   ·have:=hr v (by simp) (by assumption);omega
   ·exact ha
theorem pM{m:List Nat}{room:List Int}{n:Nat}{e:List Nat}(he:e.Pairwise (· < ·))(hn:∀v∈e,v<n)(hl:room.length=n)(hr:∀v<n,m.getD v 0=0→0≤room.getD v 0):
  (mq (gQ m room e 1000000) e room).length=n∧(∀v<n,m.getD v 0=0→0≤(mq (gQ m room e 1000000) e room).getD v 0)∧0≤gQ m room e 1000000∧gQ m room e 1000000≤1000000:=by
 obtain⟨a1,a2,a3⟩:=amt_spec m room e 1000000;obtain⟨s1,s2⟩:=lK (gQ m room e 1000000) n e room he hn hl;refine⟨s1,fun v hv h0=>?_,a3 (by omega) fun v hv=>hr v (hn v hv),a1⟩;rw[s2 v];have:=hr v hv h0;split
 ·have:=a2 v (by assumption) h0;omega
 ·omega
theorem oU{m:List Nat}{n:Nat}{T:Nat→Bool} : ∀(es:List (List Nat)) (i:Nat) (room:List Int),jP n es→Ext n es m T→(∀v<n,m.getD v 0≤2)→room.length=n→(∀v<n,m.getD v 0=0→0≤room.getD v 0)→(dS m es i room).2≤phi m T room n
 | [],i,room,_,_,_,_,hr=>by rw[dS];exact kr n hr
 | e::es,i,room,he,hx,h2,hl,hr=>by
  obtain⟨e1,e2,e3⟩:=he e (by simp)
  have he':jP n es:=fun x hx=>he x (by simp[hx])
  have hx':Ext n es m T:=⟨hx.c,hx.x,fun x hx2=>hx.h x (by simp[hx2])⟩;rw[dS];split
  ·exact oU es _ room he' hx' h2 hl hr
  ·rename_i hh;split
   ·exact oU es _ room he' hx' h2 hl hr
   ·obtain⟨r1,r2,r3,r4⟩:=pM (m:=m) e2 e3 hl hr;have ih:=oU es (i+1) _ he' hx' h2 r1 r2;obtain⟨u,hu,hT⟩:=hx.h e (by simp);obtain⟨s1,s2⟩:=lK (gQ m room e 1000000) n e room e2 e3 hl
    have hu0:m.getD u 0=0:=by
     have a2:=h2 u (e3 u hu);by_cases b1:m.getD u 0=1
     ·exact absurd (List.any_eq_true.2 ⟨u,hu,by simpa using b1⟩) hh
     ·by_cases b2:m.getD u 0=2
      ·rw[hx.x u (e3 u hu) b2]at hT;cases hT
      ·omega
    have:=(phi_le (m:=m) (T:=T) (room:=room) r3 n fun v hv=>by rw[s2 v];split<;>omega).2 ⟨u,e3 u hu,hT,hu0,by rw[s2 u,if_pos hu]⟩;simp only;omega
theorem io{m:List Nat}{n:Nat}{ES:List (List Nat)}(hE:jP n ES):∀(es:List (List Nat)) (i:Nat) (room:List Int),es=ES.drop i→room.length=n→(∀v<n,m.getD v 0=0→0≤room.getD v 0)→
  (∀x∈(dS m es i room).1,okS ES m x=true)∧jN (dS m es i room).1=(dS m es i room).2∧(dS m es i room).1.length≤es.length∧(∀v<n,m.getD v 0=0→ldR ES v (dS m es i room).1≤room.getD v 0)∧(dS m es i room).2≤1000000*es.length∧0≤(dS m es i room).2
 | [],i,room,_,_,hr=>by simp[dS,jN,ldR];exact hr
 | e::es,i,room,hd,hl,hr=>by
  have hi:i<ES.length:=by
   by_cases h:i<ES.length
   ·exact h
   ·rw[List.drop_of_length_le (by omega)]at hd;cases hd
  rw[List.drop_eq_getElem_cons hi]at hd;obtain⟨hd1,hd2⟩:=List.cons.inj hd
  have hg:ES.getD i []=e:=by rw[ah _ _ hi,hd1]
  obtain⟨e1,e2,e3⟩:=hE e (by rw[hd1];exact List.getElem_mem hi);rw[dS];split
  ·obtain⟨a,b,c,d,f,g⟩:=io hE es (i+1) room hd2 hl hr;exact⟨a,b,by simp;omega,d,by simp;omega,g⟩
  ·rename_i hh;split
   ·obtain⟨a,b,c,d,f,g⟩:=io hE es (i+1) room hd2 hl hr;exact⟨a,b,by simp;omega,d,by simp;omega,g⟩
   ·rename_i h0;obtain⟨r1,r2,r3,r4⟩:=pM (m:=m) e2 e3 hl hr;obtain⟨a,b,c,d,f,g⟩:=io hE es (i+1) _ hd2 r1 r2;obtain⟨s1,s2⟩:=lK (gQ m room e 1000000) n e room e2 e3 hl;refine⟨fun x hx=>?_,by simp only[jN];omega,by simp;omega,fun v hv hv0=>?_,by simp;omega,by simp;omega⟩
    ·rcases List.mem_cons.1 hx with rfl | hx
     ·simp only[okS,Int.toNat_natCast,hg,Bool.and_eq_true,decide_eq_true_eq];refine⟨⟨⟨⟨by omega,by omega⟩,by omega⟩,by omega⟩,by simpa using hh⟩
     ·exact a x hx
    ·simp only[ldR,Int.toNat_natCast,hg];have:=d v hv hv0;rw[s2 v]at this;omega
theorem qZ(m:List Nat):∀(e:List Nat) (c:List Int) (b:Int),((brE m e c b).2=b∧(b<0→∀v∈e,m.getD v 0≠0))∨∃v∈e,m.getD v 0=0∧(brE m e c b).2=v
 | [],c,b=>.inl ⟨rfl,by simp⟩
 | v::e,c,b=>by
  rw[brE];split
  ·rename_i h0
   rcases qZ m e (c.set v (c.getD v 0+1)) (if b<0∨(c.set v (c.getD v 0+1)).getD b.toNat 0<c.getD v 0+1 then(v:Int) else b) with⟨h1,_⟩ | ⟨u,hu,h1,h2⟩
   ·by_cases hb:b<0∨(c.set v (c.getD v 0+1)).getD b.toNat 0<c.getD v 0+1
    ·rw[if_pos hb]at h1 ⊢;exact .inr ⟨v,by simp,h0,h1⟩
    ·rw[if_neg hb]at h1 ⊢;exact .inl ⟨h1,fun h=>absurd (.inl h) hb⟩
   ·exact .inr ⟨u,by simp[hu],h1,h2⟩
  ·rename_i h0
   rcases qZ m e c b with⟨h1,h2⟩ | ⟨u,hu,h1,h2⟩
   ·refine .inl ⟨h1,fun h u hu=>?_⟩
    rcases List.mem_cons.1 hu with rfl | hu
    ·exact h0
    ·exact h2 h u hu
   ·exact .inr ⟨u,by simp[hu],h1,h2⟩
theorem qY(m:List Nat):∀(es:List (List Nat)) (c:List Int) (b:Int),(brF m es c b=b∧(b<0→∀e∈es,gE m 1 e=true∨∀v∈e,m.getD v 0≠0))∨∃e∈es,∃v∈e,m.getD v 0=0∧brF m es c b=v
 | [],c,b=>.inl ⟨rfl,by simp⟩
 | e::es,c,b=>by
  rw[brF];split
  ·rename_i h0
   rcases qY m es c b with⟨h1,h2⟩ | ⟨x,hx,v,hv,h1,h2⟩
   ·refine .inl ⟨h1,fun h x hx=>?_⟩
    rcases List.mem_cons.1 hx with rfl | hx
    ·exact .inl h0
    ·exact h2 h x hx
   ·exact .inr ⟨x,by simp[hx],v,hv,h1,h2⟩
  ·rcases qY m es (brE m e c b).1 (brE m e c b).2 with⟨h1,h2⟩ | ⟨x,hx,v,hv,h1,h2⟩
   ·rcases qZ m e c b with⟨g1,g2⟩ | ⟨v,hv,g1,g2⟩
    ·rw[g1]at h1 h2;rw[g1];refine .inl ⟨h1,fun h x hx=>?_⟩
     rcases List.mem_cons.1 hx with rfl | hx
     ·exact .inr (g2 h)
     ·exact h2 h x hx
    ·rw[g2]at h1;rw[g2];exact .inr ⟨e,by simp,v,hv,g1,h1⟩
   ·exact .inr ⟨x,by simp[hx],v,hv,h1,h2⟩
theorem mg{n:Nat}{es:List (List Nat)}(he:jP n es)(m:List Nat):(brS es m<0∧(gM m es=false→∀e∈es,∃v∈e,m.getD v 0=1))∨((brS es m).toNat<n∧0≤brS es m∧m.getD (brS es m).toNat 0=0):=by
 unfold brS
 rcases qY m es (List.replicate m.length 0) (-1) with⟨h1,h2⟩ | ⟨e,h,v,hv,h1,h2⟩
 ·refine .inl ⟨by omega,fun hd e h=>?_⟩
  have h3:gE m 1 e=true:=by
   rcases h2 (by omega) e h with h3 | h3
   ·exact h3
   ·have:=List.any_eq_false.1 hd e h
    have h0:gE m 0 e=false:=by
     unfold gE;rw[List.any_eq_false];intro v hv;simpa using h3 v hv
    rw[h0]at this;simpa using this
  obtain⟨v,hv,h4⟩:=List.any_eq_true.1 h3;exact⟨v,hv,by simpa using h4⟩
 ·rw[h2];exact .inr ⟨by simpa using(he e h).2.2 v hv,by omega,by simpa using h1⟩
structure Wok (n:Nat) (ws:List Int) (m:List Nat):Prop where
 lw:ws.length=n
 lm:m.length=n
 p:∀v<n,1≤ws.getD v 0
 le:∀v<n,m.getD v 0≤2
theorem Wok.set{n:Nat}{ws:List Int}{m:List Nat}(g:Wok n ws m)(v:Nat){c:Nat}(hc:c≤2):Wok n ws (m.set v c):=by
 refine⟨g.lw,by simp[g.lm],g.p,fun u hu=>?_⟩;by_cases e:v=u
 ·subst e;by_cases hv:v<m.length
  ·rw[ac _ hv];exact hc
  ·rw[List.set_eq_of_length_le (by omega)];exact g.le v hu
 ·rw[af _ e];exact g.le u hu
theorem Ext.of_set{n:Nat}{es:List (List Nat)}{m:List Nat}{T:Nat→Bool}{v c:Nat}(hv:v<m.length)(hn:v<n)(h0:m.getD v 0=0)(h:Ext n es (m.set v c) T):Ext n es m T:=by
 refine⟨fun u hu h1=>?_,fun u hu h1=>?_,h.h⟩
 ·have:v≠u:=by rintro rfl;omega
  exact h.c u hu (by rwa [af _ this])
 ·have:v≠u:=by rintro rfl;omega
  exact h.x u hu (by rwa [af _ this])
theorem prv_ok{ws:List Int}{es:List (List Nat)}{n:Nat}(he:jP n es)(hes:es.length≤10000):∀(k:Nat) (m:List Nat) (lf b:Int),Wok n ws m→dl m<k→2^(dl m+1)-1≤lf→(∀T,Ext n es m T→b≤phi m T ws n)→
  ∃l lf',iK ws es k m lf b=some (l,lf')∧lf-(2^(dl m+1)-1)≤lf'∧∀(r:List Nde) (K:Nat),l.length≤K→dZ ws es K m (l++r) b=(some r,true)
 | 0,_,_,_,_,h,_,_=>by omega
 | k+1,m,lf,b,g,ho,hlf,hT=>by
  have hp1:(1:Int)≤2^dl m:=by exact_mod_cast Nat.one_le_two_pow
  rw[Int.pow_succ]at hlf;rw[iK,if_neg (by omega)];by_cases h1:b≤0∨gM m es=true
  ·rw[if_pos h1];refine⟨_,_,rfl,by rw[Int.pow_succ];omega,fun r K hK=>?_⟩;obtain⟨K,rfl⟩:∃j,K=j+1:=⟨K-1,by simp at hK;omega⟩;simp only[List.cons_append,List.nil_append,dZ,if_true];rw[Prod.mk.injEq];refine⟨rfl,?_⟩
   rcases h1 with h | h<;>simp[h]
  ·rw[if_neg h1]
   have hb:0<b:=by
    by_cases h:b≤0
    ·exact absurd (.inl h) h1
    ·omega
   have hd:gM m es=false:=by
    cases h:gM m es
    ·rfl
    ·exact absurd (.inr h) h1
   have hr:∀v<n,m.getD v 0=0→0≤ws.getD v 0:=fun v hv _=>by have:=g.p v hv;omega
   obtain⟨q1,q2,q3,q4,_,_⟩:=io (m:=m) he es 0 ws (by simp) g.lw hr;by_cases h2:b≤(eV ws es m).2
   ·rw[if_pos h2];refine⟨_,_,rfl,by rw[Int.pow_succ];omega,fun r K hK=>?_⟩;obtain⟨K,rfl⟩:∃j,K=j+1:=⟨K-1,by simp at hK;omega⟩;unfold eV at h2 ⊢
    have hne:(dS m es 0 ws).1≠[]:=fun h=>by rw[h]at q2;simp only[jN]at q2;omega
    simp only[List.cons_append,List.nil_append,dZ,if_true];rw[if_neg hne,Prod.mk.injEq];refine⟨rfl,?_⟩;unfold shE;rw[decide_eq_true (show(dS m es 0 ws).1.length≤10000 by omega),Bool.true_and,jU ws es m b he _ _ 0 (by simp[g.lm]) (fun v hv _=>by rw[fk];have:=g.p v hv;omega)];exact⟨q1,fun v hv h0=>by rw[fk,Int.zero_add];exact q4 v hv h0,by omega⟩
   ·rw[if_neg h2]
    rcases mg he m with⟨h3,h4⟩ | ⟨v1,v2,v3⟩
    ·exfalso;have hx:=hT (fun v=>decide (m.getD v 0=1)) ⟨fun v _ h=>by simpa using h,fun v _ h=>by simp only[decide_eq_false_iff_not];omega,fun e h=>by obtain⟨v,hv,h5⟩:=h4 hd e h;exact⟨v,hv,by simpa using h5⟩⟩
     have h0:∀j,phi m (fun v=>decide (m.getD v 0=1)) ws j=0:=by
      intro j
      induction j with
      | zero=>rfl
      | succ j ih=>rw[phi,ih,if_neg (by rintro⟨a,c⟩;simp only[decide_eq_true_eq]at a;omega)];rfl
     rw[h0]at hx;omega
    ·rw[if_neg (by omega)];obtain⟨v,hv⟩:∃v,v=(brS es m).toNat:=⟨_,rfl⟩
     have hvi:brS es m=(v:Int):=by omega
     rw[←hv]at v1 v3 ⊢
     have hvm:v<m.length:=by rw[g.lm];exact v1
     have o1:=lV hvm v3 (c:=1) (by omega);have o2:=lV hvm v3 (c:=2) (by omega)
     have hpo:(2:Int)^dl m=2^(dl (m.set v 1)+1):=by rw[o1]
     have hpo2:(2:Int)^dl m=2^(dl (m.set v 2)+1):=by rw[o2]
     obtain⟨l1,f1,a1,a2,a3⟩:=prv_ok he hes k (m.set v 1) (lf-1) (b-ws.getD v 0) (g.set v (by omega)) (by omega) (by rw[←hpo];omega) (fun T hX=>by
      have:=hT T (hX.of_set hvm v1 v3);rw[lU T ws hvm v3 (by omega) n,if_pos ⟨v1,hX.c v v1 (ac _ hvm _ _)⟩]
      omega)
     rw[←hpo]at a2;rw[a1]
     obtain⟨l2,f2,b1,b2,b3⟩:=prv_ok he hes k (m.set v 2) f1 b (g.set v (by omega)) (by omega) (by rw[←hpo2];omega) (fun T hX=>by
      have:=hT T (hX.of_set hvm v1 v3);rw[lU T ws hvm v3 (by omega) n,if_neg (by rintro⟨_,h⟩;rw[hX.x v v1 (ac _ hvm _ _)]at h;cases h)]
      omega)
     rw[←hpo2]at b2;simp only[b1];refine⟨_,_,rfl,by rw[Int.pow_succ];omega,fun r K hK=>?_⟩;obtain⟨K,rfl⟩:∃j,K=j+1:=⟨K-1,by simp at hK;omega⟩;simp only[List.length_cons,List.length_append]at hK;rw[hvi,List.cons_append,dZ,if_neg (by simp only;omega),if_neg (by simp only[Int.toNat_natCast,v3];rintro(h | h | h | h)<;>first | omega | exact h rfl)];simp only[Int.toNat_natCast];rw[List.append_assoc,a3 (l2++r) K (by omega)];simp only;rw[b3 r K (by omega)]
structure GoodB (n:Nat) (ws:List Int) (es:List (List Nat)) (b:Bst) (T:Nat→Bool):Prop where
 l:b.l=(List.range n).filter T
 h:∀e∈es,∃v∈e,T v=true
 w:b.w=dv ws T n
theorem wsum_set{ws:List Int}{m:List Nat}{v:Nat}(hv:v<m.length)(h0:m.getD v 0=0):∀n,dv ws (fun u=>decide ((m.set v 1).getD u 0=1)) n=dv ws (fun u=>decide (m.getD u 0=1)) n+if v<n then ws.getD v 0 else 0
 | 0=>by simp[dv]
 | n+1=>by
  rw[dv,dv,wsum_set hv h0 n];by_cases e:v=n
  ·subst e;rw[ac _ hv,h0];simp
  ·rw[af _ e]
   have:v<n+1↔v<n:=by omega
   simp only[this];omega
theorem wsum_set2{ws:List Int}{m:List Nat}{v:Nat}(hv:v<m.length)(h0:m.getD v 0=0):∀n,dv ws (fun u=>decide ((m.set v 2).getD u 0=1)) n=dv ws (fun u=>decide (m.getD u 0=1)) n
 | 0=>by simp[dv]
 | n+1=>by
  rw[dv,dv,wsum_set2 hv h0 n];by_cases e:v=n
  ·subst e;rw[ac _ hv,h0];simp
  ·rw[af _ e]
theorem min_ok{ws:List Int}{es:List (List Nat)}{n:Nat}(he:jP n es):∀(k:Nat) (m:List Nat) (lf:Int) (b:Bst) (w:Int),Wok n ws m→dl m<k→2^(dl m+1)-1≤lf→w=dv ws (fun u=>decide (m.getD u 0=1)) n →
  ∃lf' b',nC ws es k m lf b w=some (lf',b')∧lf-(2^(dl m+1)-1)≤lf'∧b'.w≤b.w∧(∀T,Ext n es m T→b'.w≤w+phi m T ws n)∧(b'=b∨∃T,GoodB n ws es b' T)
 | 0,_,_,_,_,_,h,_,_=>by omega
 | k+1,m,lf,b,w,g,ho,hlf,hw=>by
  have hp1:(1:Int)≤2^dl m:=by exact_mod_cast Nat.one_le_two_pow
  rw[Int.pow_succ]at hlf ⊢;rw[nC,if_neg (by omega)]
  have hr:∀v<n,m.getD v 0=0→0≤ws.getD v 0:=fun v hv _=>by have:=g.p v hv;omega
  cases hd:gM m es
  ·rw[if_neg (by simp)];by_cases h2:b.w≤w+(eV ws es m).2
   ·rw[if_pos h2];refine⟨_,_,rfl,by omega,by omega,fun T hX=>?_,.inl rfl⟩;have:=oU es 0 ws he hX g.le g.lw hr;unfold eV at h2;omega
   ·rw[if_neg h2];obtain⟨_,_,_,_,_,q6⟩:=io (m:=m) he es 0 ws (by simp) g.lw hr;unfold eV at h2
    rcases mg he m with⟨h3,h4⟩ | ⟨v1,v2,v3⟩
    ·rw[if_pos h3];refine⟨_,_,rfl,by omega,by simp only;omega,fun T hX=>?_,.inr ⟨fun u=>decide (m.getD u 0=1),⟨?_,fun e h=>?_,?_⟩⟩⟩
     ·have:=kr (m:=m) (T:=T) n hr;simp only;omega
     ·unfold chosenL;rw[g.lm]
     ·obtain⟨v,hv,h5⟩:=h4 hd e h;exact⟨v,hv,by simpa using h5⟩
     ·exact hw
    ·rw[if_neg (by omega)];obtain⟨v,hv⟩:∃v,v=(brS es m).toNat:=⟨_,rfl⟩;rw[←hv]at v1 v3 ⊢
     have hvm:v<m.length:=by rw[g.lm];exact v1
     have o1:=lV hvm v3 (c:=1) (by omega);have o2:=lV hvm v3 (c:=2) (by omega)
     have hpo:(2:Int)^dl m=2^(dl (m.set v 1)+1):=by rw[o1]
     have hpo2:(2:Int)^dl m=2^(dl (m.set v 2)+1):=by rw[o2]
     obtain⟨f1,b1,a1,a2,a3,a4,a5⟩:=min_ok he k (m.set v 1) (lf-1) b (w+ws.getD v 0) (g.set v (by omega)) (by omega) (by rw[←hpo];omega) (by rw[wsum_set hvm v3 n,if_pos v1,hw]);rw[←hpo]at a2;rw[a1];obtain⟨f2,b2,c1,c2,c3,c4,c5⟩:=min_ok he k (m.set v 2) f1 b1 w (g.set v (by omega)) (by omega) (by rw[←hpo2];omega) (by rw[wsum_set2 hvm v3 n,hw]);rw[←hpo2]at c2;refine⟨f2,b2,c1,by omega,by omega,fun T hX=>?_,?_⟩
     ·cases ht:T v
      ·have hX2:Ext n es (m.set v 2) T:=⟨fun u hu h=>by
         by_cases e:v=u
         ·subst e;rw[ac _ hvm]at h;omega
         ·exact hX.c u hu (by rwa [af _ e]at h),fun u hu h=>by
         by_cases e:v=u
         ·subst e;exact ht
         ·exact hX.x u hu (by rwa [af _ e]at h),hX.h⟩
       have:=c4 T hX2;rw[lU T ws hvm v3 (by omega) n,if_neg (by rintro⟨_,h⟩;rw[ht]at h;cases h)]at this;omega
      ·have hX1:Ext n es (m.set v 1) T:=⟨fun u hu h=>by
         by_cases e:v=u
         ·subst e;exact ht
         ·exact hX.c u hu (by rwa [af _ e]at h),fun u hu h=>by
         by_cases e:v=u
         ·subst e;rw[ac _ hvm]at h;omega
         ·exact hX.x u hu (by rwa [af _ e]at h),hX.h⟩
       have:=a4 T hX1;rw[lU T ws hvm v3 (by omega) n,if_pos ⟨v1,ht⟩]at this;omega
     ·rcases c5 with rfl | c5
      ·exact a5
      ·exact .inr c5
  ·rw[if_pos rfl];refine⟨_,_,rfl,by omega,by omega,fun T hX=>?_,.inl rfl⟩;exfalso;obtain⟨e,h1,h2⟩:=List.any_eq_true.1 hd;obtain⟨v,hv,h3⟩:=hX.h e h1;simp only[Bool.and_eq_true,Bool.not_eq_true',gE,List.any_eq_false,decide_eq_true_eq]at h2;have hn:=(he e h1).2.2 v hv;have:=hX.x v hn (by have:=h2.1 v hv;have:=h2.2 v hv;have:=g.le v hn;omega);rw[h3]at this;cases this
end
end Go.Proofs.YteijbpppalhihaaGreat
