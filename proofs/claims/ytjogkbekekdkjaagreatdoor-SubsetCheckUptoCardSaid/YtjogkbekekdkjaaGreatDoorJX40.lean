/- JX40: own texts of this seat, joined and shortened by pack4.py: SP. -/
import Derived.Test.YtjogkbekekdkjaaGreatDoorJX35
import Derived.Test.YtjogkbekekdkjaaGreatDoorJX39
set_option linter.unusedVariables false
set_option linter.unusedSimpArgs false
set_option maxRecDepth 100000
set_option maxHeartbeats 64000000
open Int renaming tmod_lt_of_pos→sR,tmod_nonneg→sW
open List renaming replicate→rO,getElem_mem→rQ,not_mem_nil→rS,mem_cons→rU,mem_of_getElem?→rW,getElem?_append_left→rg,length_append→ri,append_nil→rj,getElem?_append_right→rq,take_of_length_le→rt,mem_singleton→sC,mem_of_mem_take→sD,length_map→sK,map_append→sX,length_set→se,map_cons→tF,length_take→tR,mem_or_eq_of_mem_set→tT,map_nil→tt,map_set→uM,getElem?_set→uh
open Nat renaming zero_le→sY,mod_lt→uX
namespace Go.Proofs.YtjogkbekekdkjaaGreatDoor
section
open Go Go.AM
section
structure Sp4 where
 k:Int
 i:Nat
 y:Int
def bi(s:Sp4):V:=.agg [.int .u8 s.k,.int .u8 (s.i:Int),.int .i8 s.y]
structure S4Ok (s:Sp4):Prop where
 k:0≤s.k∧s.k<256
 i:s.i<256
 y : -128≤s.y∧s.y<128
theorem iI{H:List B}{c0 c1 c2 d0 d1 d2:V}(h0:ExpX H c0 d0)(h1:ExpX H c1 d1)(h2:ExpX H c2 d2):ExpX H (.agg [c0,c1,c2]) (.agg [d0,d1,d2]):=by
 refine .agg _ _ rfl (fun i c d hc hd=>?_)
 match i with
 | 0=>simp at hc hd;subst hc;subst hd;exact h0
 | 1=>simp at hc hd;subst hc;subst hd;exact h1
 | 2=>simp at hc hd;subst hc;subst hd;exact h2
 | k+3=>simp at hc
theorem expn_up3{H:List B}{n:Nat}{c0 c1 c2 d0 d1 d2:V}(h0:ExpN H n c0 d0)(h1:ExpN H n c1 d1)(h2:ExpN H n c2 d2):ExpN H n (.agg [c0,c1,c2]) (.agg [d0,d1,d2]):=by
 refine .agg _ _ rfl (fun i c d hc hd=>?_)
 match i with
 | 0=>simp at hc hd;subst hc;subst hd;exact h0
 | 1=>simp at hc hd;subst hc;subst hd;exact h1
 | 2=>simp at hc hd;subst hc;subst hd;exact h2
 | k+3=>simp at hc
theorem expn_at{H:List B}{n k len tot e z:Nat}{xs ys:List V}{fz:Bool}(hn:n≤k)(hk:H[k]?=some (.buf e z xs fz))(ht:tot=xs.length)(hl:len≤tot)(hp:∀x∈xs,AM.Pure x)(hy:xs.take len=ys):ExpN H n (.buf k 0 len tot) (.lst z false ys):=hy▸expn_buf hn hk ht hl hp
theorem nE(i n:Nat):((i:Int).tmod (n:Int))=((i % n:Nat):Int):=by
 rw[Int.natCast_emod];exact Int.tmod_eq_emod_of_nonneg (by omega)
theorem qR{H:List B}{l:List Nde}{j n e q:Nat}{c:V}{nd:Nde}(hn:l.length=n)(hk:H[q]?=some (.buf e 2 ((l.map aS).set j c) false))(hc:ExpX H c (aS nd)):ExpX H (.buf q 0 n n) (.lst 2 false ((l.set j nd).map aS)):=by
 have:=ExpX.bufx (H:=H) q e 2 ((l.map aS).set j c) ((l.set j nd).map aS) false hk (by simp) (fun i a b ha hb=>by
  rw[uh]at ha;rw[uM,uh]at hb;by_cases hij:j=i
  ·rw[if_pos hij]at ha hb;split at ha
   ·rename_i hl;rw[if_pos hl]at hb;cases ha;cases hb;exact hc
   ·cases ha
  ·rw[if_neg hij]at ha hb;rw[ha]at hb;cases hb;obtain⟨y,_,rfl⟩:=List.mem_map.1 (rW ha)
   exact .pure _ (by simp))
 rw[se,sK,hn]at this;exact this
theorem LNd_snoc{s:AM.St}{l:List Nde}{w:Value}(h:Rel s (.lst 2 false (l.map aS++[.agg [.int .i64 (-1),.nilS]])) w):Rel s (LNd false (l++[⟨-1,[]⟩])) w:=by
 refine pU h (by simp) (fun y hy=>?_) (fun i x y hx hy j c hc=>?_)
 ·obtain⟨z,_,rfl⟩:=List.mem_map.1 hy;refine⟨rfl,fun c hc=>?_⟩;simp only[aS,V.cells,rU,rS,or_false]at hc
  rcases hc with rfl | rfl<;>rfl
 ·rw[sX]at hy;by_cases hi:i<(l.map aS).length
  ·rw[rg hi]at hx hy;rw[hx]at hy;cases hy;exact⟨c,hc,.inl rfl⟩
  ·rw[rq (by omega)]at hx hy;obtain⟨q,hq⟩:∃q,q=i-(l.map aS).length:=⟨_,rfl⟩;rw[←hq]at hx hy
   match q with
   | 0 =>
    simp at hx hy;subst hx;subst hy
    match j with
    | 0=>exact⟨_,rfl,.inl (Option.some.inj (show some c=some (V.int .i64 (-1)) from hc.symm))⟩
    | 1 =>
     have e:=Option.some.inj hc;subst e;exact⟨_,rfl,.inr (.inr ⟨2,rfl,rfl⟩)⟩
    | j+2=>simp[aS,V.cells]at hc
   | q+1=>simp at hx
theorem wcallS_of{P:Program}{f:FuncId}{args:List V}{H:List B}{K K':V→List B→Prop}(h:av P f args H K)(hk:∀r H',K r H'→K' r H'):aQ P (.fn f []) args H K':=by
 simp only[aQ,rj];exact h.mono hk
structure RpB (n:Nat) (D:List Int) (l:List Nde):Prop where
 dl:D.length≤n
 ll:l.length≤600+n
 sl:∀x∈l,x.l.length≤1000000
def SpR(s:Sp4)(n:Nat)(D:List Int)(b:Int)(l:List Nde):Prop:=∃D' b' l',aL Tryz.prog 25 [aj false false D b l,bi s] (fun r=>r=aj false false D' b' l')∧RpB (n+1) D' l'
theorem RpB.mono{n:Nat}{D:List Int}{l:List Nde}(h:RpB n D l):RpB (n+1) D l:=⟨by have:=h.dl;omega,by have:=h.ll;omega,h.sl⟩
section
variable {s:Sp4} {n:Nat} {D:List Int} {b:Int} {l:List Nde}
theorem lZ(hs:S4Ok s):IntKind.u8.wrap (s.k.tmod 8)=s.k.tmod 8∧0≤s.k.tmod 8∧s.k.tmod 8<8:=by
 have a1:=sW 8 hs.k.1;have a2:=sR s.k (show(0:Int)<8 by omega);exact⟨by rw[IntKind.wrap_u8];omega,a1,a2⟩
theorem sp_0(hs:S4Ok s)(h:RpB n D l)(hq:s.k.tmod 8=0):SpR s n D b l:=by
 refine⟨D,b,l,?_,h.mono⟩;have w8:=(lZ hs).1;rw[hq]at w8;have wi:=ai s.i (by have:=hs.i;omega);refine sPx Tryz.func25 rfl rfl ?_;simp -dsimp[Tryz.f25,rO,aj,L1,LNd,bi,hq,w8,wi]
theorem sp_1(hs:S4Ok s)(h:RpB n D l)(hq:s.k.tmod 8=1):SpR s n D b l:=by
 refine⟨D,IntKind.i64.wrap (b+s.y),l,?_,h.mono⟩;have w8:=(lZ hs).1;rw[hq]at w8;have wi:=ai s.i (by have:=hs.i;omega);have wy:IntKind.i64.wrap s.y=s.y:=wrap64 (by have:=hs.y;omega) (by have:=hs.y;omega);refine sPx Tryz.func25 rfl rfl ?_;simp -dsimp[Tryz.f25,rO,aj,L1,LNd,bi,hq,w8,wi,wy]
theorem sp_2(hs:S4Ok s)(h:RpB n D l)(hn10:n≤10)(hq:s.k.tmod 8=2):SpR s n D b l:=by
 have w8:=(lZ hs).1;rw[hq]at w8;have wi:=ai s.i (by have:=hs.i;omega);have wy:IntKind.i64.wrap s.y=s.y:=wrap64 (by have:=hs.y;omega) (by have:=hs.y;omega);have hd:=h.dl;have cc:=jA D false (by omega);simp only[L1]at cc;by_cases hne:D=[]
 ·subst hne;refine⟨[],b,l,?_,h.mono⟩;refine bV (aF tok Tryz.func25 rfl rfl ?_);refine wx ?_;simp -dsimp[Tryz.f25,rO,hq,w8,wi,wy,aj,L1,LNd,bi];refine(eY cc (by simp)).mono ?_;rintro r H' ⟨e,z,xs,rfl,rfl,_,rfl,rfl,rfl⟩;simp -dsimp[aj,L1,LNd,bi];exact iI (dK rfl rfl (by simp)) (.pure _ (by simp)) (.pure _ (by simp))
 ·obtain⟨m,hm⟩:∃m,D.length=m:=⟨_,rfl⟩
  have hm0:0<m:=by rw[←hm];exact List.length_pos_iff.2 hne
  obtain⟨j,hj⟩:∃j,s.i % m=j:=⟨_,rfl⟩
  have hjm:j<m:=by rw[←hj];exact uX _ hm0
  have hmod:(s.i:Int).tmod (m:Int)=(j:Int):=by rw[nE,hj]
  have hjD:j<D.length:=by omega
  refine⟨D.set j (IntKind.i64.wrap (D[j]+s.y)),b,l,?_,⟨by rw[se];omega,by have:=h.ll;omega,h.sl⟩⟩;obtain⟨x,hx⟩:∃x,x=D[j]:=⟨_,rfl⟩;rw[←hx];obtain⟨W,hW⟩:∃W,W=D.set j (IntKind.i64.wrap (x+s.y)):=⟨_,rfl⟩
  have hst:(D.map aE).set j (.int .i64 (IntKind.i64.wrap (x+s.y)))=W.map aE:=by rw[hW,uM];rfl
  have hst2:(D.map aE).set j (aE (IntKind.i64.wrap (x+s.y)))=W.map aE:=hst
  have hWl:W.length=m:=by rw[hW,se,hm]
  rw[←hW];refine bV (aF tok Tryz.func25 rfl rfl ?_);refine wx ?_;simp -dsimp[Tryz.f25,rO,hq,w8,wi,wy,aj,L1,LNd,bi];refine(eY cc (by simp)).mono ?_;rintro r H' ⟨e,z,xs,rfl,rfl,_,rfl,rfl,rfl⟩;simp -dsimp[hm,hm0,show(0:Int)<(m:Int) by omega,aj,L1,LNd,bi];refine aG (aW tok mixed [14] [] [] (by kernel_rfl) fun C K hC hK=>?_);simp -implicitDefEqProofs [hm,hm0,hjm,hjD,hmod,hx.symm,aE,wy,hst,show ¬(m:Int)=0 by omega,show ¬m=0 by omega,aj,L1,LNd,bi];refine hK _ _ ?_;simp -dsimp[aj,L1,LNd,bi];exact iI (dK (fz:=false) (e:=2) (by first | rfl | simp[←hst2]) (by simp[hWl]) (by simp)) (.pure _ (by simp)) (.pure _ (by simp))
def spI(c:V)(b:Int)(d:V)(s:Sp4)(G:List B):List B:=B.cells [c,.int .i64 b,d]::B.cells [.int .u8 s.k,.int .u8 (s.i:Int),.int .i8 s.y]::B.cells [.nilS,.int .i64 0,.nilS]::G
theorem sp_3(hs:S4Ok s)(h:RpB n D l)(hn10:n≤10)(hq:s.k.tmod 8=3):SpR s n D b l:=by
 have w8:=(lZ hs).1;rw[hq]at w8;have wi:=ai s.i (by have:=hs.i;omega);have wy:IntKind.i64.wrap s.y=s.y:=wrap64 (by have:=hs.y;omega) (by have:=hs.y;omega);have hd:=h.dl;have cc:=jA D false (by omega);simp only[L1]at cc;obtain⟨m,hm⟩:∃m,D.length=m:=⟨_,rfl⟩;obtain⟨S,hS⟩:∃S,S=isI ltI (m+1-1) 1 (D++[s.y]):=⟨_,rfl⟩
 have hSl:S.length=m+1:=by rw[hS,isI_len];simp[hm]
 refine⟨S,b,l,?_,⟨by omega,by have:=h.ll;omega,h.sl⟩⟩
 have hrb:∀bl∈spI (.buf 3 0 (m+1) (m+1)) b (.lst 2 false (l.map aS)) s [B.buf 2 1 (iL (D++[s.y])) false],rbB (spI (.buf 3 0 (m+1) (m+1)) b (.lst 2 false (l.map aS)) s [B.buf 2 1 (iL (D++[s.y])) false]).length bl:=by
  intro bl hb;simp only[spI,rU,rS,or_false]at hb
  rcases hb with rfl | rfl | rfl | rfl
  ·intro c hc;simp only[rU,rS,or_false]at hc
   rcases hc with rfl | rfl | rfl
   ·simp[rb,rb1,spI]
   ·exact bq (by simp) rfl
   ·exact bq (by simp) rfl
  ·intro c hc;simp only[rU,rS,or_false]at hc
   rcases hc with rfl | rfl | rfl<;>exact bq (by simp) rfl
  ·intro c hc;simp only[rU,rS,or_false]at hc
   rcases hc with rfl | rfl | rfl<;>exact bq (by simp) rfl
  ·exact intB4_rb _ _ _ _
 have cs:av Tryz.prog 60 [.buf 3 0 (m+1) (m+1)] (spI (.buf 3 0 (m+1) (m+1)) b (.lst 2 false (l.map aS)) s [B.buf 2 1 (iL (D++[s.y])) false]) fun _ H'=>H'=spI (.buf 3 0 (m+1) (m+1)) b (.lst 2 false (l.map aS)) s [B.buf 2 1 (iL S) false]:=by
  rw[hS];exact sortI_h (H:=spI (.buf 3 0 (m+1) (m+1)) b (.lst 2 false (l.map aS)) s [B.buf 2 1 (iL (D++[s.y])) false]) (k:=3) (by simp[spI]) hrb (D++[s.y]) (m+1) (by simp[hm]) (by omega)
 simp only[spI,show iL (D++[s.y])=iL D++[V.int .i64 s.y] by simp[iL,aE]]at cs;refine kw (qe (K:=fun r=>r=aj false false S b l) ?_);refine aF tok Tryz.func25 rfl rfl ?_;refine wx ?_;simp -dsimp[Tryz.f25,rO,hq,w8,wi,wy,aj,L1,LNd,bi];refine aG (aW tok mixed [2,7,9] [(4,[0]),(6,[0])] [(.buf 3 0 m m,spI (.lst 1 false (D.map aE)) b (.lst 2 false (l.map aS)) s [B.buf 2 1 (iL D) false])] (by kernel_rfl) fun C K hC hK=>?_);simp -implicitDefEqProofs [spI,hm,gk D,wy,go m (by omega),aj,L1,LNd,bi];refine⟨hC _ _ _ _ ?_,hK _ _ ?_⟩
 ·refine(eY cc (by simp)).mono ?_;rintro r H' ⟨e,z,xs,rfl,rfl,_,rfl,rfl,rfl⟩;exact⟨by simp[hm],by simp[iL]⟩
 ·simp -dsimp[aj,L1,LNd,bi];refine bD cs ?_;rintro _ _ rfl;simp -dsimp[aj,L1,LNd,bi];exact expn_up3 (expn_at (k:=3) (sY _) rfl (by rw[gk];omega) (by omega) (fun x hx=>by obtain⟨y,_,rfl⟩:=List.mem_map.1 hx;simp[aE]) (by rw[←hSl];exact rt (Nat.le_of_eq (gk S)))) (.pure _ (by simp)) (.pure _ (by simp))
theorem sp_4(hs:S4Ok s)(h:RpB n D l)(hn10:n≤10)(hq:s.k.tmod 8=4):SpR s n D b l:=by
 have w8:=(lZ hs).1;rw[hq]at w8;have wi:=ai s.i (by have:=hs.i;omega);have hd:=h.dl;by_cases hne:D=[]
 ·subst hne;refine⟨[],b,l,?_,h.mono⟩;refine sPx Tryz.func25 rfl rfl ?_;simp -dsimp[Tryz.f25,rO,aj,L1,LNd,bi,hq,w8,wi]
 ·have cc:=jA D false (by omega);simp only[L1]at cc;obtain⟨m,hm⟩:∃m,D.length=m:=⟨_,rfl⟩
  have hm0:0<m:=by rw[←hm];exact List.length_pos_iff.2 hne
  obtain⟨j,hj⟩:∃j,s.i % m=j:=⟨_,rfl⟩
  have hjm:j<m:=by rw[←hj];exact uX _ hm0
  have hmod:(s.i:Int).tmod (m:Int)=(j:Int):=by rw[nE,hj]
  have cd:av Tryz.prog 28 [.buf 3 0 m m,.int .i64 j,.int .i64 ((j:Int)+1)] (spI (.lst 1 false (D.map aE)) b (.lst 2 false (l.map aS)) s [B.buf 2 1 (iL D) false]) fun r H'=>r = .buf 3 0 (m-1) m∧H'=spI (.lst 1 false (D.map aE)) b (.lst 2 false (l.map aS)) s [B.buf 2 1 (iL (D.eraseIdx j++[0])) false]:=deleteI_h (H:=spI (.lst 1 false (D.map aE)) b (.lst 2 false (l.map aS)) s [B.buf 2 1 (iL D) false]) (k0:=3) (by simp[spI]) D m j hm (by omega) hjm
  have hel:(D.eraseIdx j).length=m-1:=by rw[List.length_eraseIdx,if_pos (by omega),hm]
  refine⟨D.eraseIdx j,b,l,?_,⟨by omega,by have:=h.ll;omega,h.sl⟩⟩;generalize D.eraseIdx j=W at cd hel ⊢;refine kw (qe (K:=fun r=>r=aj false false W b l) ?_);refine aF tok Tryz.func25 rfl rfl ?_;refine wx ?_;simp -dsimp[Tryz.f25,rO,hq,w8,wi,hm,hm0,show(0:Int)<(m:Int) by omega,aj,L1,LNd,bi];refine aG (aW tok mixed [2,14,16] [(5,[0]),(6,[0]),(10,[0]),(11,[0])] [(.buf 3 0 m m,spI (.lst 1 false (D.map aE)) b (.lst 2 false (l.map aS)) s [B.buf 2 1 (iL D) false]),(.buf 3 0 (m-1) m,spI (.lst 1 false (D.map aE)) b (.lst 2 false (l.map aS)) s [B.buf 2 1 (iL (W++[0])) false])] (by kernel_rfl) fun C K hC hK=>?_);simp -implicitDefEqProofs [hmod,hm,aH j (by omega),spI,show ¬(m:Int)=0 by omega,show ¬m=0 by omega,aj,L1,LNd,bi];simp only[spI]at cd;refine⟨⟨hC _ _ _ _ ?_,hC _ _ _ _ ?_⟩,hK _ _ ?_⟩
  ·refine(eY cc (by simp)).mono ?_;rintro r H' ⟨e,z,xs,rfl,rfl,_,rfl,rfl,rfl⟩;exact⟨by simp[hm],by simp[iL]⟩
  ·refine wcallS_of cd ?_;rintro r H' ⟨rfl,rfl⟩;exact⟨rfl,rfl⟩
  ·simp -dsimp[aj,L1,LNd,bi];exact expn_up3 (expn_at (k:=3) (sY _) rfl (by rw[gk];simp;omega) (by omega) (fun x hx=>by obtain⟨y,_,rfl⟩:=List.mem_map.1 hx;simp[aE]) (by rw[←hel];simp[iL])) (.pure _ (by simp)) (.pure _ (by simp))
theorem sp_6(hs:S4Ok s)(h:RpB n D l)(hn10:n≤10)(hq:s.k.tmod 8=6):SpR s n D b l:=by
 have w8:=(lZ hs).1;rw[hq]at w8;have wi:=ai s.i (by have:=hs.i;omega);by_cases hne:l=[]
 ·subst hne;refine⟨D,b,[],?_,h.mono⟩;refine sPx Tryz.func25 rfl rfl ?_;simp -dsimp[Tryz.f25,rO,aj,L1,LNd,bi,hq,w8,wi]
 ·obtain⟨m,hm⟩:∃m,l.length=m:=⟨_,rfl⟩
  have hm0:0<m:=by rw[←hm];exact List.length_pos_iff.2 hne
  refine⟨D,b,l.take (m-1),?_,⟨by have:=h.dl;omega,by rw[tR];have:=h.ll;omega,fun x hx=>h.sl x (sD hx)⟩⟩;have hll:=h.ll
  have wm:IntKind.i64.wrap ((m:Int)-1)=((m-1:Nat):Int):=by rw[wrap64 (by omega) (by omega)];omega
  refine sPx Tryz.func25 rfl rfl ?_;simp -dsimp[Tryz.f25,rO,aj,L1,LNd,bi,hq,w8,wi,hm,hm0,show(0:Int)<(m:Int) by omega,wm,show m-1≤m by omega]
  exact fun x hx=>by obtain⟨y,_,rfl⟩:=List.mem_map.1 (sD hx);simp
theorem sp_7(hs:S4Ok s)(h:RpB n D l)(hn10:n≤10)(hq:s.k.tmod 8=7):SpR s n D b l:=by
 have w8:=(lZ hs).1;rw[hq]at w8;have wi:=ai s.i (by have:=hs.i;omega);have hll:=h.ll;obtain⟨m,hm⟩:∃m,l.length=m:=⟨_,rfl⟩;have cc:=cloneO_D l false (by omega);refine⟨D,b,l++[⟨-1,[]⟩],?_,⟨by have:=h.dl;omega,by rw[ri];simp;omega,fun x hx=>?_⟩⟩
 rotate_left
 ·rcases List.mem_append.1 hx with hx | hx
  ·exact h.sl x hx
  ·rw[sC]at hx;subst hx;simp
 have key:aL Tryz.prog 25 [aj false false D b l,bi s] fun r=>r = .agg [L1 false D,.int .i64 b,.lst 2 false (l.map aS++[.agg [.int .i64 (-1),.nilS]])]:=by
  refine bV (aF tok Tryz.func25 rfl rfl ?_);refine wx ?_;simp -dsimp[Tryz.f25,rO,hq,w8,wi,aj,L1,LNd,bi];refine(eY cc (by simp)).mono ?_;rintro r H' ⟨e,z,xs,rfl,rfl,_,rfl,rfl,rfl⟩;simp -dsimp[hm,ql m (by omega),aj,L1,LNd,bi];refine⟨?_,fun x hx=>?_⟩
  rotate_left
  ·rcases hx with⟨y,_,rfl⟩ | rfl<;>simp
  exact iI (.pure _ (by simp)) (.pure _ (by simp)) (dK rfl (by simp[hm]) (fun x hx=>by
   rcases List.mem_append.1 hx with h | h
   ·obtain⟨y,_,rfl⟩:=List.mem_map.1 h;simp
   ·rw[sC]at h;subst h;simp))
 refine ka key (fun st w r hr hrel=>?_);subst hr;refine⟨_,?_,by unfold aj;simp,rfl⟩
 cases hrel with
 | agg _ us hl hz hh =>
  refine .agg _ us hl ?_ (fun i c w hc hw=>?_)
  ·intro c hc;simp only[rU,rS,or_false]at hc
   rcases hc with rfl | rfl | rfl<;>rfl
  match i with
  | 2 =>
   have e:=Option.some.inj hc;subst e;exact LNd_snoc (hh 2 _ w rfl hw)
  | 0=>exact hh 0 c w hc hw
  | 1=>exact hh 1 c w hc hw
  | i+3=>simp[aj]at hc
theorem set_sl{l:List Nde}{j:Nat}{x:Nde}(h:∀y∈l,y.l.length≤1000000)(hx:x.l.length≤1000000):∀y∈l.set j x,y.l.length≤1000000:=fun y hy=>by
 rcases tT hy with hy | rfl
 ·exact h y hy
 ·exact hx
theorem sp_5(hs:S4Ok s)(h:RpB n D l)(hn10:n≤10)(hq:s.k.tmod 8=5):SpR s n D b l:=by
 have w8:=(lZ hs).1;rw[hq]at w8;have wi:=ai s.i (by have:=hs.i;omega);have wy:IntKind.i64.wrap s.y=s.y:=wrap64 (by have:=hs.y;omega) (by have:=hs.y;omega);have hll:=h.ll;have cc:=cloneO_D l false (by omega);by_cases hne:l=[]
 ·subst hne;refine⟨D,b,[],?_,h.mono⟩;refine bV (aF tok Tryz.func25 rfl rfl ?_);refine wx ?_;simp -dsimp[Tryz.f25,rO,hq,w8,wi,aj,L1,LNd,bi];refine(eY cc (by simp)).mono ?_;rintro r H' ⟨e,z,xs,rfl,rfl,_,rfl,rfl,rfl⟩;simp -dsimp[aj,L1,LNd,bi];exact iI (.pure _ (by simp)) (.pure _ (by simp)) (dK rfl rfl (by simp))
 ·obtain⟨m,hm⟩:∃m,l.length=m:=⟨_,rfl⟩
  have hm0:0<m:=by rw[←hm];exact List.length_pos_iff.2 hne
  obtain⟨j,hj⟩:∃j,s.i % m=j:=⟨_,rfl⟩
  have hjm:j<m:=by rw[←hj];exact uX _ hm0
  have hmod:(s.i:Int).tmod (m:Int)=(j:Int):=by rw[nE,hj]
  have hjl:j<l.length:=by omega
  obtain⟨nd,hnd⟩:∃nd,nd=l[j]:=⟨_,rfl⟩;have hml:nd.l.length≤1000000:=h.sl nd (by rw[hnd];exact rQ hjl);have ch:=cloneO_S nd.l false hml;obtain⟨v,sl⟩:=nd
  have hv0:l[j].v=v:=by rw[←hnd]
  simp only at ch hml
  cases sl with
  | nil =>
   refine⟨D,b,l.set j ⟨IntKind.i64.wrap (v+s.y),[]⟩,?_,⟨by have:=h.dl;omega,by rw[se];omega,set_sl h.sl (by simp)⟩⟩;obtain⟨W,hW⟩:∃W,W=l.set j ⟨IntKind.i64.wrap (v+s.y),[]⟩:=⟨_,rfl⟩;rw[←hW];simp only[tt]at ch;refine bV (aF tok Tryz.func25 rfl rfl ?_);refine wx ?_;simp -dsimp[Tryz.f25,rO,hq,w8,wi,aj,L1,LNd,bi,aS,LSh];refine(eY cc (by simp)).mono ?_;rintro r H' ⟨e,z,xs,rfl,rfl,_,rfl,rfl,rfl⟩;simp -dsimp[hm,hm0,show(0:Int)<(m:Int) by omega,hmod,hjm,hjl,hnd.symm,show ¬(m:Int)=0 by omega,show ¬m=0 by omega,aj,L1,LNd,bi,aS,LSh];refine .inr ⟨aC (by kernel_rfl),?_⟩;refine(eY ch (by simp)).mono ?_;rintro r H' ⟨e,z,xs,rfl,rfl,_,rfl,rfl,rfl⟩;simp -dsimp[hm,hjm,hjl,aj,L1,LNd,bi,aS,LSh];refine aG (aW tok mixed [10] [] [] (by kernel_rfl) fun C K hC hK=>?_);simp -implicitDefEqProofs [hm,hjm,hjl,wy,hv0,aj,L1,LNd,bi,aS,LSh];refine hK _ _ ?_;simp -dsimp[aj,L1,LNd,bi,aS,LSh];rw[hW];exact iI (.pure _ (by simp)) (.pure _ (by simp)) (qR hm rfl (ExpX.agg2 (.pure _ (by simp)) (dK rfl rfl (by simp))))
  | cons x sl =>
   obtain⟨q,hlq⟩:∃q,sl.length=q:=⟨_,rfl⟩;refine⟨D,b,l.set j ⟨v,⟨x.e,IntKind.i64.wrap (x.a+s.y)⟩::sl⟩,?_,⟨by have:=h.dl;omega,by rw[se];omega,set_sl h.sl (by simpa using hml)⟩⟩;obtain⟨W,hW⟩:∃W,W=l.set j ⟨v,⟨x.e,IntKind.i64.wrap (x.a+s.y)⟩::sl⟩:=⟨_,rfl⟩;rw[←hW];simp only[tF]at ch;refine bV (aF tok Tryz.func25 rfl rfl ?_);refine wx ?_;simp -dsimp[Tryz.f25,rO,hq,w8,wi,aj,L1,LNd,bi,aS,LSh];refine(eY cc (by simp)).mono ?_;rintro r H' ⟨e,z,xs,rfl,rfl,_,rfl,rfl,rfl⟩;simp -dsimp[hm,hm0,show(0:Int)<(m:Int) by omega,hmod,hjm,hjl,hnd.symm,show ¬(m:Int)=0 by omega,show ¬m=0 by omega,aj,L1,LNd,bi,aS,LSh];refine .inr ⟨aC (by kernel_rfl),?_⟩;refine(eY ch (by simp)).mono ?_;rintro r H' ⟨e,z,xs,rfl,rfl,_,rfl,rfl,rfl⟩;simp -dsimp[hm,hjm,hjl,hlq,aj,L1,LNd,bi,aS,LSh];refine aG (aW tok mixed [13] [] [] (by kernel_rfl) fun C K hC hK=>?_);simp -implicitDefEqProofs [hm,hjm,hjl,wy,hlq,aP,aj,L1,LNd,bi,aS,LSh];refine hK _ _ ?_;simp -dsimp[aj,L1,LNd,bi,aS,LSh];rw[hW,hv0]
   exact iI (.pure _ (by simp)) (.pure _ (by simp)) (qR hm rfl (ExpX.agg2 (.pure _ (by simp)) (dK rfl (by simp[hlq]) (fun y hy=>by
    rcases List.mem_cons.1 hy with rfl | h
    ·simp
    ·obtain⟨z,_,rfl⟩:=List.mem_map.1 h;simp))))
theorem sp_all(hs:S4Ok s)(h:RpB n D l)(hn10:n≤10):SpR s n D b l:=by
 obtain⟨_,h0,h8⟩:=lZ hs
 obtain e | e | e | e | e | e | e | e:s.k.tmod 8=0∨s.k.tmod 8=1∨s.k.tmod 8=2∨s.k.tmod 8=3∨s.k.tmod 8=4∨s.k.tmod 8=5∨s.k.tmod 8=6∨s.k.tmod 8=7:=by omega
 ·exact sp_0 hs h e
 ·exact sp_1 hs h e
 ·exact sp_2 hs h hn10 e
 ·exact sp_3 hs h hn10 e
 ·exact sp_4 hs h hn10 e
 ·exact sp_5 hs h hn10 e
 ·exact sp_6 hs h hn10 e
 ·exact sp_7 hs h hn10 e
end
end
end
end Go.Proofs.YtjogkbekekdkjaaGreatDoor
