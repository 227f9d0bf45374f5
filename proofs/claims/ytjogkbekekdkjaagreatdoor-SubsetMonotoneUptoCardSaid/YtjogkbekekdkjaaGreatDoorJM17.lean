/- JM17: own texts of this seat, joined and shortened by pack4.py: SO4, CP. -/
import Derived.Test.YtjogkbekekdkjaaGreatDoorJM12
import Derived.Test.YtjogkbekekdkjaaGreatDoorJM13
set_option linter.unusedVariables false
set_option linter.unusedSimpArgs false
set_option maxRecDepth 100000
set_option maxHeartbeats 64000000
open List renaming replicate→ou,getElem_mem→ow,not_mem_nil→pA,drop_eq_getElem_cons→pB,mem_cons→pD,drop_of_length_le→pF,length_append→pK,append_nil→pL,getElem?_append_right→pM,getElem?_set_self→pO,getElem?_set_ne→pR,take_of_length_le→pX,mem_singleton→pe,length_cons→pk,set_append_right→pr,take_length→pt,mem_append→pz,take_append_drop→qF,length_set→qK,length_take→qO,mem_or_eq_of_mem_set→qY,getD→qZ,set_set→qf,pairwise_append→qw,map_take→rK,length_drop→rR,take→rW,reverse_reverse→rq,map_set→rx,drop→sV
open Nat renaming le_refl→pI,sub_self→qi
namespace Go.Proofs.YtjogkbekekdkjaaGreatDoor
section
open Go Go.AM
section
theorem getZ{α:Type}(l:List α){i:Nat}(d:α)(h:i<l.length):l.getD i d=l[i]:=by simp[qZ,h]
theorem rbsZ{H:List B}{k:Nat}{b:B}(hH:∀bl∈H,rbB H.length bl)(hb:rbB H.length b):∀bl∈H.set k b,rbB (H.set k b).length bl:=fun bl h=>by
 rw[qK]
 rcases qY h with h | rfl
 ·exact hH bl h
 ·exact hb
theorem wcZ{P:Program}{f:FuncId}{args:List V}{H:List B}{K K':V→List B→Prop}(h:aZ P f args H K)(hk:∀r H',K r H'→K' r H'):aI P (.fn f []) args H K':=by
 simp only[aI,pL];exact h.mono hk
theorem wrapZ(n:Nat)(h:n<9223372036854775807):IntKind.i64.wrap (n:Int)=n:=wrap64 (by omega) (by omega)
def nzL(m:List Int):List V:=m.map au
theorem nH(m:List Int):(nzL m).length=m.length:=by simp[nzL]
theorem nzL_get{m:List Int}{x:Nat}(h:x<(nzL m).length):(nzL m)[x] = .int .i64 (m.getD x 0):=by
 have h2:x<m.length:=by rw[←nH];exact h
 simp[nzL,au,h2]
theorem nzL_set(m:List Int)(x:Nat)(v:Int):(nzL m).set x (.int .i64 v)=nzL (m.set x v):=by
 unfold nzL;rw[rx];rfl
theorem nzL_pure(m:List Int):∀x∈nzL m,AM.Pure x∧cq x=true:=by simp[nzL,au,cq]
def mO(j:Nat)(l:List Int):List Int:=(l.set (j+1) (l.getD j 0)).set j (l.getD (j+1) 0)
def ku(lt:Int→Int→Bool):Nat→List Int→List Int
 | 0,l=>l
 | j+1,l=>if lt (l.getD (j+1) 0) (l.getD j 0)=true then ku lt j (mO j l) else l
def isZ(lt:Int→Int→Bool):Nat→Nat→List Int→List Int
 | 0,_,l=>l
 | r+1,i,l=>isZ lt r (i+1) (ku lt i l)
theorem swpZ_len(j:Nat)(l:List Int):(mO j l).length=l.length:=by simp[mO]
theorem swpZ_perm(j:Nat)(l:List Int)(h:j+1<l.length):(mO j l).Perm l:=by
 unfold mO;rw[getZ l 0 h,getZ l 0 (show j<l.length by omega)];exact List.set_set_perm h (by omega)
theorem jh(lt:Int→Int→Bool):∀(j:Nat) (l:List Int),j<l.length→(ku lt j l).Perm l
 | 0,l,_=>.refl _
 | j+1,l,h=>by
  rw[ku];split
  ·exact(jh lt j (mO j l) (by rw[swpZ_len];omega)).trans (swpZ_perm j l h)
  ·exact .refl _
theorem isZ_perm(lt:Int→Int→Bool):∀(r i:Nat) (l:List Int),i+r≤l.length→(isZ lt r i l).Perm l
 | 0,_,l,_=>.refl _
 | r+1,i,l,h=>by
  rw[isZ];have h1:=jh lt i l (by omega);exact(isZ_perm lt r (i+1) _ (by rw[h1.length_eq];omega)).trans h1
def inzZ(x:Int):List Int→List Int
 | []=>[x]
 | y::rp=>if x<y then inzZ x rp++[y] else rp.reverse++[y,x]
def ltZ(a b:Int):Bool:=decide (a<b)
theorem sinkZ_ins(x:Int):∀(rp post:List Int),ku ltZ rp.length (rp.reverse++x::post)=inzZ x rp++post
 | [],post=>rfl
 | y::rp,post=>by
  have e:(y::rp).reverse++x::post=rp.reverse++y::x::post:=by simp
  rw[e,pk,ku,inzZ]
  have g1:(rp.reverse++y::x::post).getD (rp.length+1) 0=x:=by
   simp[qZ,pM]
  have g2:(rp.reverse++y::x::post).getD rp.length 0=y:=by
   simp[qZ,pM]
  have g3:mO rp.length (rp.reverse++y::x::post)=rp.reverse++x::y::post:=by
   unfold mO;rw[g1,g2,pr _ _ (by simp),pr _ _ (by simp)];simp
  rw[g1,g2,g3];by_cases h:x<y
  ·rw[if_pos (by simp[ltZ,h]),if_pos h,sinkZ_ins x rp (y::post)];simp
  ·rw[if_neg (by simp[ltZ,h]),if_neg h];simp
theorem inzZ_mem(x:Int):∀(rp:List Int) (z:Int),z∈inzZ x rp↔z=x∨z∈rp
 | [],z=>by simp[inzZ]
 | y::rp,z=>by
  rw[inzZ];split
  ·rw[pz,pe,pD,inzZ_mem x rp z];constructor
   ·rintro((h | h) | h)
    ·exact .inl h
    ·exact .inr (.inr h)
    ·exact .inr (.inl h)
   ·rintro(h | h | h)
    ·exact .inl (.inl h)
    ·exact .inr h
    ·exact .inl (.inr h)
  ·simp only[pz,List.mem_reverse,pD,pA,or_false];constructor
   ·rintro(h | h | h)<;>simp[h]
   ·rintro(h | h | h)<;>simp[h]
theorem mo(x:Int):∀rp:List Int,rp.reverse.Pairwise (·≤·)→(inzZ x rp).Pairwise (·≤·)
 | [],_=>by simp[inzZ]
 | y::rp,h=>by
  rw[List.reverse_cons,qw]at h;obtain⟨h1,_,h3⟩:=h;rw[inzZ];split
  ·rename_i hx;rw[qw];refine⟨mo x rp h1,by simp,fun a ha b hb=>?_⟩;rw[pe]at hb;subst hb
   rcases(inzZ_mem x rp a).1 ha with rfl | ha
   ·omega
   ·exact h3 a (by simpa using ha) b (by simp)
  ·rename_i hx;rw[qw];refine⟨h1,by simp;omega,fun a ha b hb=>?_⟩;have:=h3 a ha y (by simp);simp at hb
   rcases hb with rfl | rfl<;>omega
theorem nw:∀(r i:Nat) (l:List Int),i+r=l.length→(l.take i).Pairwise (·≤·)→(isZ ltZ r i l).Pairwise (·≤·)
 | 0,i,l,h,hs=>by
  rw[isZ]
  rwa [pX (by omega)]at hs
 | r+1,i,l,h,hs=>by
  rw[isZ]
  have hi:i<l.length:=by omega
  have e:l=(l.take i).reverse.reverse++l[i]::l.drop (i+1):=by
   rw[rq,←pB hi,qF]
  have hl:(l.take i).reverse.length=i:=by simp;omega
  have hk:=sinkZ_ins l[i] (l.take i).reverse (l.drop (i+1));rw[hl,←e]at hk
  have hin:(inzZ l[i] (l.take i).reverse).length=i+1:=by
   have h1:=(jh ltZ i l hi).length_eq;rw[hk,pK,rR]at h1;omega
  refine nw r (i+1) _ (by rw[(jh ltZ i l hi).length_eq];omega) ?_;rw[hk,List.take_left' hin];exact mo _ _ (by rwa [rq])
section
variable {H:List B} {k:Nat}
def SZ(H:List B)(k:Nat)(l:List Int):List B:=H.set k (.buf 2 1 (nzL l) false)
theorem SZ_at{H:List B}{k:Nat}(h:k<H.length)(l:List Int):(SZ H k l)[k]?=some (.buf 2 1 (nzL l) false):=by
 unfold SZ;rw[pO h]
theorem SZ_set(H:List B)(k:Nat)(l l':List Int):(SZ H k l).set k (.buf 2 1 (nzL l') false)=SZ H k l':=by
 unfold SZ;rw[qf]
theorem oY(H:List B)(k:Nat)(l:List Int):(SZ H k l).length=H.length:=by simp[SZ]
theorem SZ_rb{H:List B}(hH:∀bl∈H,rbB H.length bl)(k:Nat)(l:List Int):∀bl∈SZ H k l,rbB (SZ H k l).length bl:=rbsZ hH ((rbB_buf1 (nzL_pure l)).2 trivial)
theorem nan_Z(x:Int):aE Tryz.prog 139 [.int .i64 x] fun r=>r = .bool false:=by
 refine sPx Tryz.func139 rfl rfl ?_;simp -dsimp[Tryz.f139,ou]
theorem less_Z(a b:Int):aE Tryz.prog 81 [.int .i64 a,.int .i64 b] fun r=>r = .bool (ltZ a b):=by
 unfold ltZ;by_cases h:a<b
 ·rw[decide_eq_true h];refine sPx Tryz.func81 rfl rfl ?_;simp -dsimp[Tryz.f81,ou];refine cPx (nan_Z a) (by simp) ?_;simp -dsimp[h]
 ·rw[decide_eq_false h];refine sPx Tryz.func81 rfl rfl ?_;simp -dsimp[Tryz.f81,ou];refine cPx (nan_Z a) (by simp) ?_;simp -dsimp[h]
theorem insOrdZ_h(hk:k<H.length)(hH:∀bl∈H,rbB H.length bl)(l:List Int)(n:Nat)(hn:l.length=n)(hn2:n≤1000000):
  aZ Tryz.prog 159 [.buf k 0 n n,.int .i64 0,.int .i64 n] (SZ H k l) fun _ H'=>H'=SZ H k (isZ ltZ (n-1) 1 l):=by
 obtain⟨S,hS⟩:∃S,S=isZ ltZ (n-1) 1 l:=⟨_,rfl⟩;rw[←hS];have w1:IntKind.i64.wrap (1:Int)=1:=wrap64 (by omega) (by omega);refine aK tok Tryz.func159 rfl rfl ?_;refine wx ?_;simp -dsimp[Tryz.f159,ou,w1];refine aR (W_loopM 49 0x1fffffffffcc0 (by simp[mB]<;>rfl) (σ:=Nat×List Int) (fun p=>1≤p.1∧p.1≤n+1∧p.2.length=n∧isZ ltZ (n-p.1) p.1 p.2=S) (fun p=>n+1-p.1) (fun p=>[(6,.int .i64 p.1)]) (fun p=>SZ H k p.2) (1,l) ⟨by simp,by simp,hn,hS.symm⟩ (by simp) (by simp) (by simp[oY]) ?_);rintro⟨i,l1⟩ ⟨hi,hi2,hl1,hx⟩ N Q hN hQ;simp only at hi hi2 hl1 hx hN;by_cases hb:i<n
 ·rw[show n-i=(n-(i+1))+1 by omega,isZ]at hx;refine wx ?_;simp -dsimp[hb];refine aR (W_loopM 49 0x1ffffffff0080 (by simp[mB]<;>rfl) (σ:=Nat×List Int) (fun p=>p.1≤i∧p.2.length=n∧ku ltZ p.1 p.2=ku ltZ i l1) (fun p=>p.1) (fun p=>[(7,.int .i64 p.1)]) (fun p=>SZ H k p.2) (i,l1) ⟨by simp,hl1,rfl⟩ (by simp) (by simp) (by simp[oY]) ?_);rintro⟨j,l2⟩ ⟨hj,hl2,hy⟩ N2 Q2 hN2 hQ2;simp only at hj hl2 hy hN2;have g9:=SZ_at hk l2;have hnl:=nH l2
  cases j with
  | zero =>
   rw[ku]at hy;refine wx ?_;simp -dsimp[];refine .inr ⟨bN (by kernel_rfl),?_⟩;refine hQ2 _ _ _ ?_;simp -dsimp[aa i (by omega)];refine hN (i+1,l2) _ _ ⟨by simp only;omega,by simp only;omega,hl2,by rw[hy];exact hx⟩ (by simp only;omega) (by simp) ⟨[],by simp⟩ (by simp[oY];exact hk) (SZ_rb hH k l2)
  | succ j =>
   rw[ku]at hy
   have a1:=fun h=>nzL_get (m:=l2) (x:=j+1) h
   have a0:=fun h=>nzL_get (m:=l2) (x:=j) h
   have wj:IntKind.i64.wrap (((j:Int)+1)-1)=(j:Int):=by rw[wrap64 (by omega) (by omega)];omega
   have wj2:IntKind.i64.wrap (j:Int)=(j:Int):=wrapZ j (by omega)
   have hj1:j+1<n:=by omega
   have hj0:j<n:=by omega
   obtain⟨x,hxx⟩:∃x,x=l2.getD (j+1) 0:=⟨_,rfl⟩;obtain⟨y,hyy⟩:∃y,y=l2.getD j 0:=⟨_,rfl⟩;rw[←hxx,←hyy]at hy;rw[←hxx]at a1;rw[←hyy]at a0;have cl:=less_Z x y
   cases hq:ltZ x y with
   | true =>
    rw[hq]at cl;rw[if_pos hq]at hy;refine wx ?_;simp -dsimp[g9,hnl,hl2,hj1,hj0,a1,a0,wj,wj2,show(0:Int)≤(j:Int)+1 by omega,show(j:Int)+1<(n:Int) by omega];refine .inr ⟨bN (by kernel_rfl),?_⟩;refine ar _ (aW (cl) (by simp)) ?_;simp -dsimp[]
    have hsw:mO j l2=(l2.set (j+1) y).set j x:=by unfold mO;rw[←hxx,←hyy]
    have hst1:(nzL l2).set (j+1) (.int .i64 y)=nzL (l2.set (j+1) y):=nzL_set l2 (j+1) y
    have hst2:(nzL (l2.set (j+1) y)).set j (.int .i64 x)=nzL (mO j l2):=by rw[hsw];exact nzL_set _ j x
    have q9:=SZ_at hk (l2.set (j+1) y);have qs1:=SZ_set H k l2 (l2.set (j+1) y);have qs2:=SZ_set H k (l2.set (j+1) y) (mO j l2);have qnl:=nH (l2.set (j+1) y);rw[qK]at qnl
    have b0:=fun h=>nzL_get (m:=l2.set (j+1) y) (x:=j) h
    refine aR (ao tok mixed [15,17] [(2,[1]),(3,[1]),(4,[1])] [] (by kernel_rfl) fun C K hC hK=>?_);simp -implicitDefEqProofs [g9,hnl,hl2,hj1,hj0,a1,a0,wj,wj2,hst1,hst2,q9,qs1,qs2,qnl,b0,show(0:Int)≤(j:Int)+1 by omega,show(j:Int)+1<(n:Int) by omega];refine hK _ _ ?_;simp -dsimp[wj,wj2];refine hN2 (j,mO j l2) _ _ ⟨by simp only;omega,by rw[swpZ_len];exact hl2,hy⟩ (by simp only;omega) (by simp) ⟨[],by simp⟩ (by simp[oY];exact hk) (SZ_rb hH k _)
   | false =>
    rw[hq]at cl;rw[if_neg (by rw[hq];simp)]at hy;refine wx ?_;simp -dsimp[g9,hnl,hl2,hj1,hj0,a1,a0,wj,wj2,show(0:Int)≤(j:Int)+1 by omega,show(j:Int)+1<(n:Int) by omega];refine .inr ⟨bN (by kernel_rfl),?_⟩;refine ar _ (aW (cl) (by simp)) ?_;simp -dsimp[];refine hQ2 _ _ _ ?_;simp -dsimp[aa i (by omega)];refine hN (i+1,l2) _ _ ⟨by simp only;omega,by simp only;omega,hl2,by rw[hy];exact hx⟩ (by simp only;omega) (by simp) ⟨[],by simp⟩ (by simp[oY];exact hk) (SZ_rb hH k l2)
 ·rw[show n-i=0 by omega,isZ]at hx;subst hx;refine wx ?_;simp -dsimp[hb];refine hQ _ _ _ ?_;simp -dsimp[]
end
theorem bitsLenZ(n:Nat)(h:n≤12):∃v:Int,aE Tryz.prog 105 [.int .u64 (n:Int)] fun r=>r = .int .i64 v :=
 match n,h with
 | 0,_=>⟨0,aC tok mixed aN gq (fuel:=1000) (d:=40) (by kernel_rfl) (by simp)⟩
 | 1,_=>⟨1,aC tok mixed aN gq (fuel:=1000) (d:=40) (by kernel_rfl) (by simp)⟩
 | 2,_=>⟨2,aC tok mixed aN gq (fuel:=1000) (d:=40) (by kernel_rfl) (by simp)⟩
 | 3,_=>⟨2,aC tok mixed aN gq (fuel:=1000) (d:=40) (by kernel_rfl) (by simp)⟩
 | 4,_=>⟨3,aC tok mixed aN gq (fuel:=1000) (d:=40) (by kernel_rfl) (by simp)⟩
 | 5,_=>⟨3,aC tok mixed aN gq (fuel:=1000) (d:=40) (by kernel_rfl) (by simp)⟩
 | 6,_=>⟨3,aC tok mixed aN gq (fuel:=1000) (d:=40) (by kernel_rfl) (by simp)⟩
 | 7,_=>⟨3,aC tok mixed aN gq (fuel:=1000) (d:=40) (by kernel_rfl) (by simp)⟩
 | 8,_=>⟨4,aC tok mixed aN gq (fuel:=1000) (d:=40) (by kernel_rfl) (by simp)⟩
 | 9,_=>⟨4,aC tok mixed aN gq (fuel:=1000) (d:=40) (by kernel_rfl) (by simp)⟩
 | 10,_=>⟨4,aC tok mixed aN gq (fuel:=1000) (d:=40) (by kernel_rfl) (by simp)⟩
 | 11,_=>⟨4,aC tok mixed aN gq (fuel:=1000) (d:=40) (by kernel_rfl) (by simp)⟩
 | 12,_=>⟨4,aC tok mixed aN gq (fuel:=1000) (d:=40) (by kernel_rfl) (by simp)⟩
 | n+13,h=>by omega
section
variable {H:List B} {k:Nat}
theorem sortZ_h(hk:k<H.length)(hH:∀bl∈H,rbB H.length bl)(l:List Int)(n:Nat)(hn:l.length=n)(hn2:n≤12):
  aZ Tryz.prog 60 [.buf k 0 n n] (SZ H k l) fun _ H'=>H'=SZ H k (isZ ltZ (n-1) 1 l):=by
 obtain⟨v,hv⟩:=bitsLenZ n hn2;have c1:=insOrdZ_h hk hH l n hn (by omega)
 have c2:aZ Tryz.prog 104 [.buf k 0 n n,.int .i64 0,.int .i64 n,.int .i64 v] (SZ H k l) fun _ H'=>H'=SZ H k (isZ ltZ (n-1) 1 l):=by
  have w0:IntKind.i64.wrap (n:Int)=n:=wrapZ n (by omega);refine aK tok Tryz.func104 rfl rfl ?_;refine wx ?_;simp -dsimp[Tryz.f104,ou];refine aR (W_loopM 134 0x3fffffffffffffffffffffffffffffff0e (by simp[mB]<;>rfl) (σ:=Nat) (fun p=>p=0) (fun p=>0) (fun _=>[(8,.bool true),(9,.bool true),(1,.int .i64 0),(2,.int .i64 n),(3,.int .i64 v)]) (fun _=>SZ H k l) 0 rfl (by simp) (by simp) (by simp) ?_);rintro p rfl N Q hN hQ;refine wx ?_;simp -dsimp[w0,show(n:Int)≤12 by omega,show n≤12 by omega];refine wcZ c1 ?_;rintro _ _ rfl;simp -dsimp[];refine hQ _ _ _ ?_;simp -dsimp[]
 have wu:IntKind.u64.wrap (n:Int)=(n:Int):=by rw[IntKind.wrap_u64];omega
 have g9:=SZ_at hk l;have hnl:=nH l;refine aK tok Tryz.func60 rfl rfl ?_;refine wx ?_;simp -dsimp[Tryz.f60,ou,g9,hnl,hn,wu];refine cPx hv (by simp) ?_;simp -dsimp[];refine wcZ c2 ?_;rintro _ _ rfl;simp -dsimp[]
end
end
section
def liL(m:List (List Int)):List V:=m.map (L1 false)
theorem liL_len(m:List (List Int)):(liL m).length=m.length:=by simp[liL]
theorem lk{m:List (List Int)}{x:Nat}(h:x<(liL m).length):(liL m)[x] = .lst 1 false ((eAt m x).map au):=by
 have h2:x<m.length:=by simpa[liL] using h
 simp[liL,L1,eAt,h2]
theorem liL_set(m:List (List Int))(x:Nat)(v:List Int):(liL m).set x (.lst 1 false (v.map au))=liL (m.set x v):=by
 unfold liL;rw[rx];rfl
def jX(m:List (List Int))(k:Nat):List V:=liL m++ou k .nilS
theorem mix0(m:List (List Int)):jX m 0=liL m:=by simp[jX]
theorem mixL_rb(n e:Nat)(m:List (List Int))(k:Nat)(fz:Bool):rbB n (.buf e 1 (jX m k) fz):=fun x hx=>by
 unfold jX liL at hx
 rcases List.mem_append.1 hx with h | h
 ·obtain⟨y,_,rfl⟩:=List.mem_map.1 h;intro c hc;simp only[L1,V.cells,pD,pA,or_false]at hc;subst hc;simp[rb1]
 ·obtain⟨_,rfl⟩:=List.mem_replicate.1 h;intro c hc;simp only[V.cells,pD,pA,or_false]at hc;subst hc;simp[rb1]
section
variable {H:List B} {k0:Nat}
def KB(H:List B)(k0:Nat)(xs:List V):List B:=H.set k0 (.buf 34 1 xs false)
theorem KB_at(h:k0<H.length)(xs:List V):(KB H k0 xs)[k0]?=some (.buf 34 1 xs false):=by
 unfold KB;rw[pO h]
theorem KB_set(xs xs':List V):(KB H k0 xs).set k0 (.buf 34 1 xs' false)=KB H k0 xs':=by
 unfold KB;rw[qf]
theorem oZ(xs:List V):(KB H k0 xs).length=H.length:=by simp[KB]
theorem KB_rb(hH:∀bl∈H,rbB H.length bl)(m:List (List Int)):∀bl∈KB H k0 (liL m),rbB (KB H k0 (liL m)).length bl:=rbsZ hH (by rw[←mix0];exact mixL_rb _ _ _ _ _)
end
theorem om{l:List (List Int)}{p:Nat}(hp:1≤p)(h:eAt l p=eAt l (p-1)):cpL l (p+1)=cpL l p:=by
 obtain⟨q,rfl⟩:∃q,p=q+1:=⟨p-1,by omega⟩;rw[cpL,if_pos (by simpa using h.symm)]
theorem cpL_no{l:List (List Int)}{p:Nat}(hp:1≤p)(h:¬eAt l p=eAt l (p-1)):cpL l (p+1)=cpL l p++[eAt l p]:=by
 obtain⟨q,rfl⟩:∃q,p=q+1:=⟨p-1,by omega⟩;rw[cpL,if_neg (by intro e;exact h (by simpa using e.symm))]
theorem cpL_pos(l:List (List Int)):∀p,1≤p→1≤(cpL l p).length
 | 0,h=>by omega
 | 1,_=>by simp[cpL]
 | p+2,_=>by
  have:=cpL_pos l (p+1) (by omega);rw[cpL];split
  ·exact this
  ·simp
structure CpL (l ys:List (List Int)) (kk p:Nat):Prop where
 lt:kk<p
 len:ys.length=l.length
 tk:ys.take kk=cpL l p
 kl:kk=(cpL l p).length
 hi:∀i,p-1≤i→eAt ys i=eAt l i
theorem CpL.start{l:List (List Int)}{k:Nat}(hk:1≤k)(hl:k<l.length)(h:cpL l k=l.take k)(he:eAt l k=eAt l (k-1)):CpL l l k (k+1):=
 ⟨by omega,rfl,by rw[om hk he,h],by rw[om hk he,h];simp;omega,fun _ _=>rfl⟩
theorem CpL.skip{l ys:List (List Int)}{kk p:Nat}(h:CpL l ys kk p)(hp:1≤p)(he:eAt l p=eAt l (p-1)):CpL l ys kk (p+1):=
 ⟨by have:=h.lt;omega,h.len,by rw[om hp he];exact h.tk,by rw[om hp he];exact h.kl,fun i hi=>h.hi i (by omega)⟩
theorem CpL.keep{l ys:List (List Int)}{kk p:Nat}(h:CpL l ys kk p)(hp:1≤p)(hpl:p<l.length)(he:¬eAt l p=eAt l (p-1)):CpL l (ys.set kk (eAt l p)) (kk+1) (p+1):=by
 have h1:=h.lt;have h2:=h.len;refine⟨by omega,by simp[h2],?_,by rw[cpL_no hp he];have:=h.kl;simp;omega,fun i hi=>?_⟩
 ·rw[cpL_no hp he,←h.tk,jf (by simp;omega),List.take_set_of_le (by omega)];congr 2;simp[eAt,show kk<ys.length by omega]
 ·rw[←h.hi i (by omega)];unfold eAt;simp only[List.getD_eq_getElem?_getD];rw[pR (by omega)]
theorem CpL.done{l ys:List (List Int)}{kk:Nat}(h:CpL l ys kk l.length)(h0:l≠[]):ic l=ys.take kk∧(ic l).length=kk:=by
 unfold ic;rw[if_neg h0];exact⟨h.tk.symm,h.kl.symm⟩
section
variable {H:List B} {k0:Nat}
theorem liL_fill(ys:List (List Int))(kk n:Nat)(hn:ys.length=n):rW kk (liL ys)++(ou (n-kk) V.nilS++sV n (liL ys))=jX (ys.take kk) (n-kk):=by
 unfold jX liL;rw[pF (by simp;omega),pL,rK]
theorem compactL_h(hk0:k0<H.length)(hH:∀bl∈H,rbB H.length bl)(l:List (List Int))(n:Nat)(hn:l.length=n)(hn2:n≤1000000)(hls:∀e∈l,e.length≤1000000):
  aZ Tryz.prog 138 [.buf k0 0 n n,.fn 35 []] (KB H k0 (liL l)) fun r H'=>r = .buf k0 0 (ic l).length n∧H'=KB H k0 (jX (ic l) (n-(ic l).length)):=by
 have g0:=KB_at hk0 (liL l);have hnl:=liL_len l
 have hea:∀i,(eAt l i).length≤1000000:=fun i=>by
  by_cases h:i<l.length
  ·rw[iw h];exact hls _ (ow h)
  ·simp[eAt,show l.length≤i by omega]
 by_cases h2:n<2
 ·have hc:ic l=l:=by
   unfold ic
   match l,hn with
   | [],_=>rfl
   | [x],_=>rfl
   | _::_::_,hn=>simp at hn;omega
  rw[hc,hn,qi,mix0];refine aK tok Tryz.func138 rfl rfl ?_;refine wx ?_;simp -dsimp[Tryz.f138,ou,g0,hnl,hn,h2,show(n:Int)<2 by omega]
 ·have h0:l≠[]:=fun e=>by rw[e]at hn;simp at hn;omega
  obtain⟨R,hR⟩:∃R,R=jX (ic l) (n-(ic l).length):=⟨_,rfl⟩;obtain⟨m,hm⟩:∃m,m=(ic l).length:=⟨_,rfl⟩;rw[←hR,←hm];refine aK tok Tryz.func138 rfl rfl ?_;refine wx ?_;simp -dsimp[Tryz.f138,ou,g0,hnl,hn,h2,show ¬(n:Int)<2 by omega];refine aR (W_loopM 65 0x1fffffffffffff0f0 (by simp[mB]<;>rfl) (σ:=Nat) (fun k=>1≤k∧k≤n∧cpL l k=l.take k) (fun k=>n-k) (fun k=>[(5,.int .i64 k)]) (fun _=>KB H k0 (liL l)) 1 ⟨by omega,by omega,by rw[jf (k:=0) (by omega)];rfl⟩ (by simp) (by simp) (by simp[oZ]) ?_);rintro k ⟨hk,hkn,hx⟩ N Q hN hQ;by_cases hb:k<n
  ·obtain⟨q,rfl⟩:∃q,k=q+1:=⟨k-1,by omega⟩
   have a1:=fun h=>lk (m:=l) (x:=q+1) h
   have a0:=fun h=>lk (m:=l) (x:=q) h
   have wq:IntKind.i64.wrap (((q:Int)+1)-1)=(q:Int):=by rw[wrap64 (by omega) (by omega)];omega
   have hq:q<n:=by omega
   have w2:IntKind.i64.wrap ((q:Int)+1+1)=(q:Int)+1+1:=wrap64 (by omega) (by omega);have c0:=equal64 (eAt l (q+1)) (eAt l q) false false (hea _) (hea _);obtain⟨x,hxx⟩:∃x,x=eAt l (q+1):=⟨_,rfl⟩;obtain⟨y,hyy⟩:∃y,y=eAt l q:=⟨_,rfl⟩;rw[←hxx]at a1;rw[←hyy]at a0;rw[←hxx,←hyy]at c0;simp only[L1]at c0;by_cases he:x=y
   ·rw[decide_eq_true he]at c0;refine wx ?_;simp -dsimp[g0,hnl,hn,hb,a1,a0,wq,hq,eJ q (by omega),show(0:Int)≤(q:Int)+1 by omega,show(q:Int)+1<(n:Int) by omega];refine .inr ⟨bN (by kernel_rfl),?_⟩;refine ar _ (aW (c0) (by simp)) ?_;simp -dsimp[g0,hnl,hn,hkn,show(0:Int)≤(q:Int)+1 by omega,show ¬q+1=n by omega];refine aR (W_loopM 59 0x7ffffff000000a0 (by simp[mB]<;>rfl) (σ:=Nat×Nat×List (List Int)) (fun p=>1≤p.2.1∧q+1+p.2.1≤n∧CpL l p.2.2 p.1 (q+1+p.2.1)) (fun p=>n-p.2.1) (fun p=>[(5,.int .i64 p.1),(7,.int .i64 p.2.1),(6,.buf k0 (q+1) (n-(q+1)) n)]) (fun p=>KB H k0 (liL p.2.2)) (q+1,1,l) ⟨pI _,by show q+1+1≤n;omega,CpL.start (by omega) (by omega) hx (by rw[show q+1-1=q by omega,←hxx,←hyy];exact he)⟩ (by simp) (by simp) (by simp[oZ]) ?_);rintro⟨kk,k2,ys⟩ ⟨i1,i2,I⟩ N2 Q2 hN2 hQ2;simp only at i1 i2 I hN2;have g1:=KB_at hk0 (liL ys);have ynl:=liL_len ys
    have yl:ys.length=n:=by rw[I.len,hn]
    have hlt:=I.lt;by_cases hb2:q+1+k2<n
    ·obtain⟨r,rfl⟩:∃r,k2=r+1:=⟨k2-1,by omega⟩;have c2:=equal64 (eAt l (q+1+(r+1))) (eAt l (q+1+r)) false false (hea _) (hea _);obtain⟨u,hu⟩:∃u,u=eAt l (q+1+(r+1)):=⟨_,rfl⟩;obtain⟨v,hv⟩:∃v,v=eAt l (q+1+r):=⟨_,rfl⟩
     have b1:=fun h=>lk (m:=ys) (x:=q+1+(r+1)) h
     have b0:=fun h=>lk (m:=ys) (x:=q+1+r) h
     rw[I.hi _ (by omega),←hu]at b1;rw[I.hi _ (by omega),←hv]at b0;rw[←hu,←hv]at c2;simp only[L1]at c2
     have wr:IntKind.i64.wrap (((r:Int)+1)-1)=(r:Int):=by rw[wrap64 (by omega) (by omega)];omega
     have wr1:IntKind.i64.wrap (r:Int)=(r:Int):=eJ r (by omega);have wr2:IntKind.i64.wrap ((r:Int)+1+1)=(r:Int)+1+1:=wrap64 (by omega) (by omega);obtain⟨d,hd⟩:∃d,d=n-(q+1):=⟨_,rfl⟩;rw[←hd];by_cases huv:u=v
     ·rw[decide_eq_true huv]at c2;refine wx ?_;simp -dsimp[g1,ynl,yl,hb2,show q+1+r<n by omega,b1,b0,wr,wr1,wr2,show(r:Int)+1<(d:Int) by omega,show r+1<d by omega,show r<d by omega,show(0:Int)≤(r:Int)+1 by omega];refine .inr ⟨bN (by kernel_rfl),?_⟩;refine ar _ (aW (c2) (by simp)) ?_;simp -dsimp[wr2];refine hN2 (kk,r+1+1,ys) _ _ ⟨by simp only;omega,by simp only;omega,I.skip (by omega) (by rw[show q+1+(r+1)-1=q+1+r by omega,←hu,←hv];exact huv)⟩ (by simp only;omega) (by simp[hd]) ⟨[],by simp⟩ (by simp[oZ];exact hk0) (KB_rb hH ys)
     ·rw[decide_eq_false huv]at c2
      have hkn2:kk<n:=by omega
      have c3:=fun h=>lk (m:=ys) (x:=kk) h
      have hst:=liL_set ys kk u;have hcs:=KB_set (H:=H) (k0:=k0) (liL ys) (liL (ys.set kk u));have wk:IntKind.i64.wrap ((kk:Int)+1)=(kk:Int)+1:=wrap64 (by omega) (by omega);have hI2:=I.keep (by omega) (by rw[hn];omega) (by rw[show q+1+(r+1)-1=q+1+r by omega,←hu,←hv];exact huv);rw[←hu]at hI2;refine wx ?_;simp -dsimp[g1,ynl,yl,hb2,show q+1+r<n by omega,b1,b0,wr,wr1,wr2,show(r:Int)+1<(d:Int) by omega,show r+1<d by omega,show r<d by omega,show(0:Int)≤(r:Int)+1 by omega];refine .inr ⟨bN (by kernel_rfl),?_⟩;refine ar _ (aW (c2) (by simp)) ?_;simp -dsimp[g1,ynl,yl,hb2,hkn2,b1,c3,hst,hcs,wk,wr2,show r+1<d by omega,show(r:Int)+1<(d:Int) by omega,show(0:Int)≤(r:Int)+1 by omega];refine hN2 (kk+1,r+1+1,ys.set kk u) _ _ ⟨by simp only;omega,by simp only;omega,hI2⟩ (by simp only;omega) (by simp[hd]) ⟨[],by simp⟩ (by simp[oZ];exact hk0) (KB_rb hH _)
    ·obtain⟨d,hd⟩:∃d,d=n-(q+1):=⟨_,rfl⟩;rw[←hd]
     have hpn:q+1+k2=n:=by omega
     rw[hpn,←hn]at I;obtain⟨e1,e2⟩:=I.done h0
     have hmk:m=kk:=by rw[hm];exact e2
     have hkl:kk<n:=by have:=I.lt;omega
     have hfill:=liL_fill ys kk n yl;have hcs:=KB_set (H:=H) (k0:=k0) (liL ys) (jX (ys.take kk) (n-kk))
     have hRR:R=jX (ys.take kk) (n-kk):=by rw[hR,e2,e1]
     have hkp:1≤kk:=by rw[←e2];unfold ic;rw[if_neg h0];exact cpL_pos l l.length (by omega)
     have g2:=KB_at hk0 (jX (ys.take kk) (n-kk))
     have hRl:(jX (ys.take kk) (n-kk)).length=n:=by unfold jX;rw[pK,liL_len,qO,List.length_replicate];omega
     rw[←hRR]at hfill hcs g2 hRl;refine wx ?_;simp -dsimp[g1,ynl,yl,show ¬(k2:Int)<(d:Int) by omega,show ¬k2<d by omega];refine hQ2 _ _ _ ?_;simp -dsimp[g1,ynl,yl,hkl,show kk≤n by omega,show ¬kk=n by omega,hfill,hcs,g2,hRl,show ¬n-kk=0 by omega,show ¬0=kk by omega];refine hQ _ _ _ ?_;simp -dsimp[];exact hmk.symm
   ·rw[decide_eq_false he]at c0;refine wx ?_;simp -dsimp[g0,hnl,hn,hb,a1,a0,wq,hq,eJ q (by omega),w2,show(0:Int)≤(q:Int)+1 by omega,show(q:Int)+1<(n:Int) by omega];refine .inr ⟨bN (by kernel_rfl),?_⟩;refine ar _ (aW (c0) (by simp)) ?_;simp -dsimp[w2];refine hN (q+1+1) _ _ ⟨by omega,by omega,by rw[cpL_no (by omega) (by rw[show q+1-1=q by omega,←hxx,←hyy];exact he),hx,jf (k:=q+1) (by omega)]⟩ (by omega) (by simp) ⟨[],by simp⟩ (by simp[oZ];exact hk0) (KB_rb hH l)
  ·obtain rfl:k=n:=by omega
   refine wx ?_;simp -dsimp[g0,hnl,hn,hb];refine hQ _ _ _ ?_;simp -dsimp[]
   have hcl:ic l=l:=by
    unfold ic;rw[if_neg h0,hn,hx,←hn,pt]
   rw[hm,hR,hcl,hn,qi,mix0];exact⟨rfl,rfl⟩
end
end
end
end Go.Proofs.YtjogkbekekdkjaaGreatDoor
