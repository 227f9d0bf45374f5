/- JM17: own texts of this seat, joined and shortened by pack4.py: Sd, CmI, Rd, RO, RQ, RS. -/
import Derived.Test.YtdnhplencamncaaGreatDoorJM13
import Derived.Test.YtdnhplencamncaaGreatDoorJM15
import Derived.Test.YtdnhplencamncaaGreatDoorJM16
set_option linter.unusedVariables false
set_option linter.unusedSimpArgs false
set_option maxRecDepth 100000
set_option maxHeartbeats 64000000
open ByteArray renaming empty→oF
open Int renaming tmod_nonneg→rm
open List renaming replicate→oE,take_succ_eq_append_getElem→oN,not_mem_nil→oO,getElem?_set_ne→oQ,mem_cons→oR,length_append→oT,append_nil→oU,drop_of_length_le→oV,length_map→oW,getElem?_set_self→oX,take_length→oY,map_append→oe,map_cons→oq,length_take→ot,take_of_length_le→pA,map_nil→pJ,mem_singleton→pM,length_set→pN,mem_of_mem_take→pQ,getD_eq_getElem?_getD→pj,mem_or_eq_of_mem_set→pu,getElem_map→qM,getElem_range→qT,map_take→qf,take→qi,map_set→qw,replicate_zero→rG,set_set→rV
open Nat renaming le_refl→oJ,sub_self→px,gcd→qo
namespace Go.Proofs.YtdnhplencamncaaGreatDoor
section
open Go Go.AM
theorem cap16m(n:Nat)(h:n≤1000000000):n≤9223372036854775806∧(n+1)*16≤140737488355328:=by omega
theorem wcEm{P:Program}{f:FuncId}{args:List V}{H H0:List B}{r0:V}{K:V→List B→Prop}(h:aU P f args H fun r H'=>r=r0∧H'=H0)(hk:K r0 H0):aL P (.fn f []) args H K:=by
 simp only[aL,oU]
 exact h.mono fun _ _ hh=>hh.1▸hh.2▸hk
theorem kg{H:List B}{k e z n:Nat}{xs:List V}{fz:Bool}(hn:n=xs.length)(hk:H[k]?=some (.buf e z xs fz))(hp:∀x∈xs,AM.Pure x):ExpX H (.buf k 0 n n) (.lst z false xs):=by
 subst hn;exact .buf k e z xs fz hk hp
theorem rbS1(n e:Nat)(ls:List (List UInt8)):rbB n (.buf e 1 (ls.map fun p=>V.str (bs p)) false):=(rbB_buf1 (by intro x hx;obtain⟨y,_,rfl⟩:=List.mem_map.1 hx;simp)).2 trivial
theorem exp_t2{H:List B}{a b c d:V}(h1:ExpX H a c)(h2:ExpX H b d):ExpX H (.tup [a,b]) (.tup [c,d]):=.tup _ _ rfl fun i x y hx hy=>by
 match i with
 | 0=>simp at hx hy;subst hx;subst hy;exact h1
 | 1=>simp at hx hy;subst hx;subst hy;exact h2
 | k+2=>simp at hx
theorem rep1(x:ByteArray):aJ Tryz.prog 331 [.str x,.int .i64 1] fun r=>r = .str x:=by
 refine sPx Tryz.func331 rfl rfl ?_;simp -dsimp[Tryz.f331,oE]
theorem grams_u(s:List UInt8)(hs:s.length≤200):aJ Tryz.prog 283 [.str (bs s),.int .i64 2] fun r=>r = .tup [.lst 1 false ((grS s).map fun p=>.str (bs p)),.int .i64 0]:=by
 have c1:=long_u [bs s] true (by simp)
 have e1:[bs s].any (fun s=>decide (200<s.size))=false:=by simp[bW];omega
 rw[e1]at c1;simp only[LS,oq,pJ]at c1;have c2:=rep1 (bs [1]);have hw0:IntKind.i64.wrap ((s.length:Int)+2)=(s.length:Int)+2:=wrap64 (by omega) (by omega)
 have hw1:IntKind.i64.wrap ((s.length:Int)+2-1)=(s.length:Int)+1:=by rw[wrap64 (by omega) (by omega)];omega
 have hwo:IntKind.i64.wrap 1=1:=by rfl
 refine au (aE tok Tryz.func283 rfl rfl ?_);refine wx ?_;simp -dsimp[Tryz.f283,oE];refine cPx (c1) (by simp) ?_;simp -dsimp[hwo,lit_bs];refine cPx (c2) (by simp) ?_;simp -dsimp[bs_app,bW,hw0,hw1,(show s.length+1≤9223372036854775807 by omega),(show s.length+1+1≤9223372036854775807 by omega),(show 1+s.length≤9223372036854775807 by omega),(show 1+s.length+1≤9223372036854775807 by omega)];obtain⟨W,hW⟩:∃W:List UInt8,W=1::(s++[1]):=⟨_,rfl⟩;rw[←hW]
 have hWl:W.length=s.length+2:=by rw[hW];simp
 have hgl:(grL s).length=s.length+1:=by simp[grL]
 refine aI (eI 9 1 [8] (by simp) (W_loopM 45 0x1fff00000300 (by simp[mB]<;>rfl) (σ:=Nat) (fun i=>i≤s.length+1) (fun i=>s.length+1-i) (fun i=>[(32,.int .i64 i),(8,.buf 0 0 i i)]) (fun i=>[B.buf 9 1 (((grL s).take i).map fun p=>V.str (bs p)) false]) 0 (by omega) (by simp) (by simp) (by simp) ?_));rintro i hi N Q hN hQ
 have hil:((grL s).take i).length=i:=by rw[ot];omega
 by_cases hb:i<s.length+1
 ·have hbi:(i:Int)<(s.length:Int)+1:=by omega
  have hcut:(bs W).extract i (i+2)=bs ((W.drop i).take 2):=by rw[bs_cut,List.drop_take];simp
  have hge:(grL s)[i]'(by omega)=(W.drop i).take 2:=by simp only[grL,qM,qT];rw[hW];rfl
  have htk:(grL s).take (i+1)=(grL s).take i++[(W.drop i).take 2]:=by rw[oN (by omega),hge]
  obtain⟨S,hS⟩:∃S,S=(grL s).take i:=⟨_,rfl⟩;rw[←hS]at hil htk ⊢;have hw2:IntKind.i64.wrap ((i:Int)+2)=(i:Int)+2:=wrap64 (by omega) (by omega);refine wx ?_;simp -dsimp[hbi,hb,hw2,(show(0:Int)≤(i:Int)+2 by omega),hcut,bW,hWl,(show i+2≤s.length+2 by omega),(show i≤s.length by omega),cap16m i (by omega),hil,(show(i:Int)≤(i:Int)+2 by omega),(show((i:Int)+2).toNat=i+2 by omega)];refine hN (i+1) _ _ (by omega) (by omega) ?_ ⟨[],?_⟩ ?_ ?_
  ·simp[aP i (by omega)]
  ·rw[htk];simp
  ·simp
  ·exact fun bl hbl=>by rw[pM]at hbl;subst hbl;exact rbS1 _ _ _
 ·have hbi:¬(i:Int)<(s.length:Int)+1:=by omega
  have htk:(grL s).take i=grL s:=pA (by omega)
  have hie:i=s.length+1:=by omega
  rw[htk];have hso:=sortS_u (H:=[B.buf 9 1 ((grL s).map fun p=>V.str (bs p)) false]) (k:=0) (e:=9) (grL s) i (by omega) (by omega) rfl;refine wx ?_;simp -dsimp[hbi,hb];refine hQ _ _ _ ?_;simp -dsimp[];refine wcEm hso ?_;simp -dsimp[];exact exp_t2 (kg (by rw[oW];show i=(grS s).length;rw[lw,hie]) rfl (by simp)) (.pure _ (by simp))
theorem common_u(a b:List UInt8)(ha:a.length≤200)(hb:b.length≤200)(n d:Nat)(hn:n=2*shN (grS a) (grS b))(hd:d=a.length+1+(b.length+1)):aJ Tryz.prog 235 [.str (bs a),.str (bs b),.int .i64 2] fun r=>r = .tup [.agg [.int .i64 ((n / qo n d:Nat):Int),.int .i64 ((d / qo n d:Nat):Int)],.int .i64 0]:=by
 have c1:=long_u [bs a,bs b] true (by simp)
 have e1:[bs a,bs b].any (fun s=>decide (200<s.size))=false:=by simp[bW];omega
 rw[e1]at c1;simp only[LS,oq,pJ]at c1;have c2:=grams_u a ha;have c3:=grams_u b hb;have la:=lw a;have lb:=lw b;have hsl:=kQ (grS a) (grS b);obtain⟨A,hA⟩:∃A,A=grS a:=⟨_,rfl⟩;obtain⟨D,hD⟩:∃D,D=grS b:=⟨_,rfl⟩;rw[←hA]at c2 la hsl hn;rw[←hD]at c3 lb hsl hn;have c4:=shared_u A D false false (by omega);obtain⟨m,hm⟩:∃m,m=shN A D:=⟨_,rfl⟩;rw[←hm]at c4 hsl hn;have c5:=make_u n d (by omega) (by omega) (by omega)
 have w1:IntKind.i64.wrap (2*(m:Int))=(n:Int):=by rw[wrap64 (by omega) (by omega)];omega
 have w2:IntKind.i64.wrap ((A.length:Int)+(D.length:Int))=(d:Int):=by rw[wrap64 (by omega) (by omega)];omega
 have hd0:¬d=0:=by omega
 have hAn:¬A=[]:=by intro h;rw[h]at la;simp at la
 refine sPx Tryz.func235 rfl rfl ?_;simp -dsimp[Tryz.f235,oE];refine cPx (c1) (by simp) ?_;simp -dsimp[];refine cPx (c2) (by simp) ?_;simp -dsimp[];refine cPx (c3) (by simp) ?_;simp -dsimp[w2,hd0];refine cPx (c4) (by simp) ?_;simp -dsimp[w1,w2];refine cPx (c5) (by simp) ?_;simp -dsimp[]
section
theorem rbsZ_set{H:List B}{k:Nat}{b:B}(hH:∀bl∈H,rbB H.length bl)(hb:rbB H.length b):∀bl∈H.set k b,rbB (H.set k b).length bl:=fun bl h=>by
 rw[pN]
 rcases pu h with h | rfl
 ·exact hH bl h
 ·exact hb
def zAt(l:List Int)(k:Nat):Int:=l.getD k 0
theorem zAt_in{l:List Int}{k:Nat}(h:k<l.length):l[k]=zAt l k:=by simp[zAt,h]
def czL(m:List Int):List V:=m.map aQ
theorem bo(m:List Int):(czL m).length=m.length:=by simp[czL]
theorem eL{m:List Int}{x:Nat}(h:x<(czL m).length):(czL m)[x] = .int .i64 (zAt m x):=by
 have h2:x<m.length:=by simpa[czL] using h
 simp[czL,aQ,zAt,h2]
theorem mD(m:List Int)(x:Nat)(v:Int):(czL m).set x (.int .i64 v)=czL (m.set x v):=by
 unfold czL;rw[qw];rfl
theorem czL_pure(m:List Int):∀x∈czL m,AM.Pure x∧cT x=true:=by
 intro x hx;obtain⟨c,_,rfl⟩:=List.mem_map.1 hx;exact⟨by simp[aQ],rfl⟩
theorem jA(n e:Nat)(m:List Int)(fz:Bool):rbB n (.buf e 1 (czL m) fz):=by simp[czL,aQ]
section
variable {H:List B} {k0:Nat}
def CZ(H:List B)(k0:Nat)(m:List Int):List B:=H.set k0 (.buf 3 1 (czL m) false)
theorem CZ_at(h:k0<H.length)(m:List Int):(CZ H k0 m)[k0]?=some (.buf 3 1 (czL m) false):=by
 unfold CZ;rw[oX h]
theorem CZ_set(m m':List Int):(CZ H k0 m).set k0 (.buf 3 1 (czL m') false)=CZ H k0 m':=by
 unfold CZ;rw[rV]
theorem oD(m:List Int):(CZ H k0 m).length=H.length:=by simp[CZ]
theorem CZ_rb(hH:∀bl∈H,rbB H.length bl)(m:List Int):∀bl∈CZ H k0 m,rbB (CZ H k0 m).length bl:=rbsZ_set hH (jA _ _ _ _)
end
def zpF(l:List Int):Nat→List Int
 | 0=>[]
 | 1=>[zAt l 0]
 | p+2=>if zAt l (p+1)=zAt l p then zpF l (p+1) else zpF l (p+1)++[zAt l (p+1)]
def dK(l:List Int):List Int:=zpF l l.length
theorem lV{l:List Int}{p:Nat}(hp:1≤p)(h:zAt l p=zAt l (p-1)):zpF l (p+1)=zpF l p:=by
 obtain⟨q,rfl⟩:∃q,p=q+1:=⟨p-1,by omega⟩;rw[zpF,if_pos (by simpa using h)]
theorem zpF_no{l:List Int}{p:Nat}(hp:1≤p)(h:¬zAt l p=zAt l (p-1)):zpF l (p+1)=zpF l p++[zAt l p]:=by
 obtain⟨q,rfl⟩:∃q,p=q+1:=⟨p-1,by omega⟩;rw[zpF,if_neg (by simpa using h)]
theorem lW(l:List Int):∀p,(zpF l p).length≤p
 | 0=>by simp[zpF]
 | 1=>by simp[zpF]
 | p+2=>by
  have:=lW l (p+1);rw[zpF];split
  ·omega
  ·simp;omega
theorem zpF_pos(l:List Int):∀p,1≤p→1≤(zpF l p).length
 | 0,h=>by omega
 | 1,_=>by simp[zpF]
 | p+2,_=>by
  have:=zpF_pos l (p+1) (by omega);rw[zpF];split
  ·exact this
  ·simp
theorem mQ{l:List Int}{k:Nat}(h:k<l.length):l.take (k+1)=l.take k++[zAt l k]:=by
 rw[oN h,zAt_in h]
structure ZpI (l ys:List Int) (kk p:Nat):Prop where
 lt:kk<p
 len:ys.length=l.length
 tk:ys.take kk=zpF l p
 kl:kk=(zpF l p).length
 hi:∀i,p-1≤i→zAt ys i=zAt l i
theorem ZpI.start{l:List Int}{k:Nat}(hk:1≤k)(hl:k<l.length)(h:zpF l k=l.take k)(he:zAt l k=zAt l (k-1)):ZpI l l k (k+1):=
 ⟨by omega,rfl,by rw[lV hk he,h],by rw[lV hk he,h];simp;omega,fun _ _=>rfl⟩
theorem ZpI.skip{l ys:List Int}{kk p:Nat}(h:ZpI l ys kk p)(hp:1≤p)(he:zAt l p=zAt l (p-1)):ZpI l ys kk (p+1):=
 ⟨by have:=h.lt;omega,h.len,by rw[lV hp he];exact h.tk,by rw[lV hp he];exact h.kl,fun i hi=>h.hi i (by omega)⟩
theorem ZpI.keep{l ys:List Int}{kk p:Nat}(h:ZpI l ys kk p)(hp:1≤p)(hpl:p<l.length)(he:¬zAt l p=zAt l (p-1)):ZpI l (ys.set kk (zAt l p)) (kk+1) (p+1):=by
 have h1:=h.lt;have h2:=h.len;refine⟨by omega,by simp[h2],?_,by rw[zpF_no hp he];have:=h.kl;simp;omega,fun i hi=>?_⟩
 ·rw[zpF_no hp he,←h.tk,mQ (by simp;omega),List.take_set_of_le (by omega)];congr 2;simp[zAt,show kk<ys.length by omega]
 ·rw[←h.hi i (by omega)];unfold zAt;simp only[pj];rw[oQ (by omega)]
theorem ZpI.done{l ys:List Int}{kk:Nat}(h:ZpI l ys kk l.length):dK l=ys.take kk∧(dK l).length=kk:=⟨h.tk.symm,h.kl.symm⟩
section
variable {H:List B} {k0:Nat}
theorem czL_fill(ys:List Int)(kk n:Nat)(hn:ys.length=n):qi kk (czL ys)++(oE (n-kk) (V.int .i64 0)++List.drop n (czL ys))=czL (ys.take kk++oE (n-kk) 0):=by
 unfold czL;rw[oV (by simp;omega),oU,oe,List.map_replicate,qf];rfl
theorem nh(hk0:k0<H.length)(hH:∀bl∈H,rbB H.length bl)(l:List Int)(n:Nat)(hn:l.length=n)(hn2:n≤1100000):
  aU Tryz.prog 164 [.buf k0 0 n n] (CZ H k0 l) fun r H'=>r = .buf k0 0 (dK l).length n∧H'=CZ H k0 (dK l++oE (n-(dK l).length) 0):=by
 have g0:=CZ_at hk0 l;have hnl:=bo l;by_cases h2:n<2
 ·have hc:dK l=l:=by
   unfold dK
   match l,hn with
   | [],_=>rfl
   | [x],_=>rfl
   | _::_::_,hn=>simp at hn;omega
  rw[hc,hn,px,rG,oU];refine aE tok Tryz.func164 rfl rfl ?_;refine wx ?_;simp -dsimp[Tryz.f164,oE,g0,hnl,hn,h2,show(n:Int)<2 by omega]
 ·obtain⟨R,hR⟩:∃R,R=dK l++oE (n-(dK l).length) 0:=⟨_,rfl⟩;obtain⟨m,hm⟩:∃m,m=(dK l).length:=⟨_,rfl⟩;rw[←hR,←hm];refine aE tok Tryz.func164 rfl rfl ?_;refine wx ?_;simp -dsimp[Tryz.f164,oE,g0,hnl,hn,h2,show ¬(n:Int)<2 by omega];refine aI (W_loopM 60 0xffffffffffffc3c (by simp[mB]<;>rfl) (σ:=Nat) (fun k=>1≤k∧k≤n∧zpF l k=l.take k) (fun k=>n-k) (fun k=>[(3,.int .i64 k)]) (fun _=>CZ H k0 l) 1 ⟨by omega,by omega,by rw[mQ (k:=0) (by omega)];rfl⟩ (by simp) (by simp) (by simp[oD]) ?_);rintro k ⟨hk,hkn,hx⟩ N Q hN hQ;by_cases hb:k<n
  ·obtain⟨q,rfl⟩:∃q,k=q+1:=⟨k-1,by omega⟩
   have a1:=fun h=>eL (m:=l) (x:=q+1) h
   have a0:=fun h=>eL (m:=l) (x:=q) h
   have wq:IntKind.i64.wrap (((q:Int)+1)-1)=(q:Int):=by rw[wrap64 (by omega) (by omega)];omega
   have hq:q<n:=by omega
   have w2:IntKind.i64.wrap ((q:Int)+1+1)=(q:Int)+1+1:=wrap64 (by omega) (by omega);obtain⟨x,hxx⟩:∃x,x=zAt l (q+1):=⟨_,rfl⟩;obtain⟨y,hyy⟩:∃y,y=zAt l q:=⟨_,rfl⟩;rw[←hxx]at a1;rw[←hyy]at a0;by_cases he:x=y
   ·have heq:(x == y)=true:=by subst he;simp
    refine wx ?_;simp -dsimp[g0,hnl,hn,hb,a1,a0,wq,hq,jL q (by omega),show(0:Int)≤(q:Int)+1 by omega,show(q:Int)+1<(n:Int) by omega,he];refine .inr ⟨aS (by kernel_rfl),?_⟩;simp -dsimp[hkn,show ¬q+1=n by omega];refine aI (W_loopM 54 0x3fffffe0000028 (by simp[mB]<;>rfl) (σ:=Nat×Nat×List Int) (fun p=>1≤p.2.1∧q+1+p.2.1≤n∧ZpI l p.2.2 p.1 (q+1+p.2.1)) (fun p=>n-p.2.1) (fun p=>[(3,.int .i64 p.1),(5,.int .i64 p.2.1),(4,.buf k0 (q+1) (n-(q+1)) n)]) (fun p=>CZ H k0 p.2.2) (q+1,1,l) ⟨oJ _,by show q+1+1≤n;omega,ZpI.start (by omega) (by omega) hx (by rw[show q+1-1=q by omega,←hxx,←hyy];exact he)⟩ (by simp) (by simp) (by simp[oD]) ?_);rintro⟨kk,k2,ys⟩ ⟨i1,i2,I⟩ N2 Q2 hN2 hQ2;simp only at i1 i2 I hN2;have g1:=CZ_at hk0 ys;have ynl:=bo ys
    have yl:ys.length=n:=by rw[I.len,hn]
    have hlt:=I.lt;by_cases hb2:q+1+k2<n
    ·obtain⟨r,rfl⟩:∃r,k2=r+1:=⟨k2-1,by omega⟩;obtain⟨u,hu⟩:∃u,u=zAt l (q+1+(r+1)):=⟨_,rfl⟩;obtain⟨v,hv⟩:∃v,v=zAt l (q+1+r):=⟨_,rfl⟩
     have b1:=fun h=>eL (m:=ys) (x:=q+1+(r+1)) h
     have b0:=fun h=>eL (m:=ys) (x:=q+1+r) h
     rw[I.hi _ (by omega),←hu]at b1;rw[I.hi _ (by omega),←hv]at b0
     have wr:IntKind.i64.wrap (((r:Int)+1)-1)=(r:Int):=by rw[wrap64 (by omega) (by omega)];omega
     have wr1:IntKind.i64.wrap (r:Int)=(r:Int):=jL r (by omega);have wr2:IntKind.i64.wrap ((r:Int)+1+1)=(r:Int)+1+1:=wrap64 (by omega) (by omega);obtain⟨d,hd⟩:∃d,d=n-(q+1):=⟨_,rfl⟩;rw[←hd];by_cases huv:u=v
     ·have heq2:(u == v)=true:=by subst huv;simp
      refine wx ?_;simp -dsimp[g1,ynl,yl,hb2,show q+1+r<n by omega,b1,b0,wr,wr1,wr2,huv,show(r:Int)+1<(d:Int) by omega,show r+1<d by omega,show r<d by omega,show(0:Int)≤(r:Int)+1 by omega];refine .inr ⟨aS (by kernel_rfl),?_⟩;refine hN2 (kk,r+1+1,ys) _ _ ⟨by simp only;omega,by simp only;omega,I.skip (by omega) (by rw[show q+1+(r+1)-1=q+1+r by omega,←hu,←hv];exact huv)⟩ (by simp only;omega) (by simp[hd]) ⟨[],by simp⟩ (by simp[oD];exact hk0) (CZ_rb hH ys)
     ·have heq2:(u == v)=false:=by
       cases h:(u == v)
       ·rfl
       ·rw[beq_iff_eq]at h;exact absurd h huv
      have hkn2:kk<n:=by omega
      have c0:=fun h=>eL (m:=ys) (x:=kk) h
      have hst:=mD ys kk u;have hcs:=CZ_set (H:=H) (k0:=k0) ys (ys.set kk u);have wk:IntKind.i64.wrap ((kk:Int)+1)=(kk:Int)+1:=wrap64 (by omega) (by omega);have hI2:=I.keep (by omega) (by rw[hn];omega) (by rw[show q+1+(r+1)-1=q+1+r by omega,←hu,←hv];exact huv);rw[←hu]at hI2;refine wx ?_;simp -dsimp[g1,ynl,yl,hb2,show q+1+r<n by omega,b1,b0,wr,wr1,wr2,huv,show(r:Int)+1<(d:Int) by omega,show r+1<d by omega,show r<d by omega,show(0:Int)≤(r:Int)+1 by omega];refine .inr ⟨aS (by kernel_rfl),?_⟩;simp -dsimp[g1,ynl,yl,hb2,hkn2,b1,c0,hst,hcs,wk,wr2,show r+1<d by omega,show(r:Int)+1<(d:Int) by omega,show(0:Int)≤(r:Int)+1 by omega];refine hN2 (kk+1,r+1+1,ys.set kk u) _ _ ⟨by simp only;omega,by simp only;omega,hI2⟩ (by simp only;omega) (by simp[hd]) ⟨[],by simp⟩ (by simp[oD];exact hk0) (CZ_rb hH _)
    ·obtain⟨d,hd⟩:∃d,d=n-(q+1):=⟨_,rfl⟩;rw[←hd]
     have hpn:q+1+k2=n:=by omega
     rw[hpn,←hn]at I;obtain⟨e1,e2⟩:=I.done
     have hmk:m=kk:=by rw[hm];exact e2
     have hkl:kk<n:=by have:=I.lt;omega
     have hfill:=czL_fill ys kk n yl;have hcs:=CZ_set (H:=H) (k0:=k0) ys (ys.take kk++oE (n-kk) 0)
     have hRR:R=ys.take kk++oE (n-kk) 0:=by rw[hR,e2,e1]
     have hkp:1≤kk:=by rw[←e2];exact zpF_pos l l.length (by omega)
     have g2:=CZ_at hk0 (ys.take kk++oE (n-kk) 0)
     have hRl:(czL (ys.take kk++oE (n-kk) 0)).length=n:=by rw[bo,←hRR,hR,e2,e1,oT,ot,List.length_replicate];omega
     rw[←hRR]at hfill hcs g2 hRl;refine wx ?_;simp -dsimp[g1,ynl,yl,show ¬(k2:Int)<(d:Int) by omega,show ¬k2<d by omega];refine hQ2 _ _ _ ?_;simp -dsimp[g1,ynl,yl,hkl,show kk≤n by omega,show ¬kk=n by omega,hfill,hcs,g2,hRl,show ¬n-kk=0 by omega,show ¬0=kk by omega];refine hQ _ _ _ ?_;simp -dsimp[];exact hmk.symm
   ·have heq:(x == y)=false:=by
     cases h:(x == y)
     ·rfl
     ·rw[beq_iff_eq]at h;exact absurd h he
    refine wx ?_;simp -dsimp[g0,hnl,hn,hb,a1,a0,wq,hq,jL q (by omega),w2,show(0:Int)≤(q:Int)+1 by omega,show(q:Int)+1<(n:Int) by omega,he];refine .inr ⟨aS (by kernel_rfl),?_⟩;refine hN (q+1+1) _ _ ⟨by omega,by omega,by rw[zpF_no (by omega) (by rw[show q+1-1=q by omega,←hxx,←hyy];exact he),hx,mQ (k:=q+1) (by omega)]⟩ (by omega) (by simp) ⟨[],by simp⟩ (by simp[oD];exact hk0) (CZ_rb hH l)
  ·obtain rfl:k=n:=by omega
   refine wx ?_;simp -dsimp[g0,hnl,hn,hb];refine hQ _ _ _ ?_;simp -dsimp[]
   have hcl:dK l=l:=by
    unfold dK;rw[hn,hx,←hn,oY]
   rw[hm,hR,hcl,hn,px,rG,oU];exact⟨rfl,rfl⟩
end
end
structure TbS (t:Tb):Prop where
 ok:TbOk t
 sz:∀r∈t.rows,∀v∈r.vals,v.s.size≤maxLen
 few:t.rows.length≤8
theorem tbOf_attrs{x:Rcp}(h:0≤x.a):(ig x).attrs.length=(x.a.tmod 6).toNat:=by
 obtain⟨h1,_⟩:=tbOf_n h;show(L8.take (x.a.tmod 6).toNat).length=_;rw[ot];have:L8.length=8:=rfl;omega
theorem tbOf_rows(x:Rcp):(ig x).rows.length=x.rows.length:=wRows_len _ _ _
theorem tbOf_ok{x:Rcp}(h:RcpOk x):TbS (ig x)∧aG (ig x)=0:=by
 obtain⟨h1,_⟩:=tbOf_n h.a.1;have ha:=tbOf_attrs h.a.1;have hr:=tbOf_rows x;have h6:=h.rows;obtain⟨w1,w2⟩:=wideT_rows (x:=x) (n:=(x.a.tmod 6).toNat) h.gap
 have ok:TbOk (ig x):=⟨(show(⟨#[114]⟩:ByteArray).size≤maxLen by decide),by omega,by omega,fun s hs=>by
  have hs:=pQ (show s∈L8.take (x.a.tmod 6).toNat from hs)
  have:∀s∈L8,s.size≤maxLen:=by
   intro s hs;simp only[L8,oR,oO,or_false]at hs
   rcases hs with rfl | rfl | rfl | rfl | rfl | rfl | rfl | rfl<;>decide
  exact this s hs⟩
 refine⟨⟨ok,fun r hr v hv=>by obtain⟨m,rfl⟩:=(w1 r hr).2.2 v hv;exact ofV_sz m,by omega⟩,?_⟩;unfold aG;rw[show bT (ig x).name=true by kernel_rfl,if_pos rfl,if_neg (by omega),show ec (ig x).attrs=true from names_few _ h1,if_pos rfl];exact mW (fun r hr=>(w1 r hr).1) (fun r hr=>by rw[ha];exact(w1 r hr).2.1) (fun r hr v hv=>by obtain⟨m,rfl⟩:=(w1 r hr).2.2 v hv;exact ofV_val m) w2
end
end Go.Proofs.YtdnhplencamncaaGreatDoor
section
namespace Go.Proofs.YtdnhplencamncaaGreatDoor
open Go Go.AM
end Go.Proofs.YtdnhplencamncaaGreatDoor
end
section
namespace Go.Proofs.YtdnhplencamncaaGreatDoor
open Go Go.AM
end Go.Proofs.YtdnhplencamncaaGreatDoor
end
namespace Go.Proofs.YtdnhplencamncaaGreatDoor
section
open Go Go.AM
theorem table03(x:Rcp)(f:Bool)(ha:0≤x.a∧x.a<256)(hg:0≤x.gap)(hc:∀r∈x.rows,r.length≤9223372036854775807):aJ Tryz.prog 4 [ax f x,.int .i64 6] fun r=>r=if x.rows.length≤6 then .tup [aD false false (ig x),.bool true] else .tup [.agg [.str oF,.nilS,.nilS],.bool false]:=by
 by_cases h6:x.rows.length≤6
 ·rw[if_pos h6];obtain⟨h1,h2⟩:=tbOf_n ha.1;have t0:=rm 6 ha.1;have t1:=Int.tmod_lt_of_pos x.a (show(0:Int)<6 by omega);have c1:=wide03 x (x.a.tmod 6).toNat f (by omega) (by omega) hc hg;rw[h2]at c1
  have w0:IntKind.u8.wrap (x.a.tmod 6)=x.a.tmod 6:=by rw[IntKind.wrap_u8];omega
  have w1:IntKind.i64.wrap (x.a.tmod 6)=x.a.tmod 6:=wrap64 (by omega) (by omega);rw[show wideT x (x.a.tmod 6).toNat=ig x from rfl]at c1;obtain⟨t,ht⟩:∃t,t=ig x:=⟨_,rfl⟩;rw[←ht]at c1 ⊢;simp only[ax,aD,LS,LR]at c1;refine sPx Tryz.func4 rfl rfl ?_;simp -dsimp[Tryz.f4,oE,ax,w0,w1,show ¬(6:Int)<x.rows.length by omega];refine cPx (c1) (by simp) ?_;simp -dsimp[aD,LS,LR]
 ·rw[if_neg h6];refine sPx Tryz.func4 rfl rfl ?_;simp -dsimp[Tryz.f4,oE,ax,show(6:Int)<x.rows.length by omega]
end
end Go.Proofs.YtdnhplencamncaaGreatDoor
