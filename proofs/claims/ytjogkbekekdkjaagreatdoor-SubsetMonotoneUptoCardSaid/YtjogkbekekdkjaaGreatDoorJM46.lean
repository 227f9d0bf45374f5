/- JM46: own texts of this seat, joined and shortened by pack4.py: SM1. -/
import Derived.Test.YtjogkbekekdkjaaGreatDoorJM44
import Derived.Test.YtjogkbekekdkjaaGreatDoorJM45
set_option linter.unusedVariables false
set_option linter.unusedSimpArgs false
set_option maxRecDepth 100000
set_option maxHeartbeats 64000000
open Int renaming eq_ofNat_of_zero_le→qy
open List renaming replicate→ou,getElem?_eq_getElem→ov,not_mem_nil→pA,mem_cons→pD,drop_of_length_le→pF,take_succ_eq_append_getElem→pJ,length_append→pK,getElem?_set_self→pO,getElem?_set_ne→pR,drop_zero→pT,nil_append→pU,take_of_length_le→pX,append_assoc→pb,length_map→pc,mem_singleton→pe,getElem?_map→pj,cons_append→pn,set_append_right→pr,map_append→qB,ext_getElem?→qE,length_set→qK,length_take→qO,length_eraseIdx_of_lt→qT,map_cons→qW,getD→qZ,set_set→qf,singleton_append→qj,set_cons_zero→qp,take_append_of_le_length→rL,map_nil→rQ,set_cons_succ→rT,map_set→rx
open Nat renaming sub_self→qi,min_eq_left→ri,mod_lt→sD
section
namespace Go.AM
open Go
theorem W_loopK{P:Program}{σ:Type}(ms:List Bool)(k:Nat)(blk:σ→B)(ok:σ→Prop)(μ:σ→Nat)(g:σ→List (Nat×V)){c:Code}{Q:Exit→List V→List B→Prop}{fr:List V}{H:List B}(x0:σ)(h0:ok x0)(hF:en (ovr (cC ms fr) (g x0)) fr)(hk:H[k]?=some (blk x0))
  (hround:∀x,ok x→∀(N:List V→List B→Prop) (Q':Exit→List V→List B→Prop),(∀y fr' H',ok y→μ y<μ x→en (ovr (cC ms fr) (g y)) fr'→(∃G,H'=H.set k (blk y)++G)→(∀v∈ovr (cC ms fr) (g y),rb H.length v)→(∀bl∈H.set k (blk y),rbB H.length bl)→N fr' H')→
   (∀e fr' H',Q e fr' H'→Q' e fr' H')→W P c (eM N Q') (ovr (cC ms fr) (g x)) (H.set k (blk x))):W P (.loop c) Q fr H :=
 W_loopV ms ok μ g (fun x=>H.set k (blk x)) x0 h0 hF (by
  apply qE;intro i;by_cases hi:i=k
  ·subst hi;rw[pO (aB hk),hk]
  ·rw[pR (Ne.symm hi)]) (fun x _=>by simp) fun x hx N Q' hN hQ=>hround x hx N Q' (fun y fr' H' a b c d e f=>hN y fr' H' a b c d (by simpa using e) (by simpa using f)) hQ
end Go.AM
namespace Go.Proofs.YtjogkbekekdkjaaGreatDoor
open Go Go.AM
def hvF(W:List Int)(i:Nat):List Int:=W.take i++ou (W.length-i) 0
theorem hvF_len(W:List Int)(i:Nat)(h:i≤W.length):(hvF W i).length=W.length:=by simp[hvF];omega
theorem hvF_set{W:List Int}{i:Nat}(h:i<W.length):((hvF W i).map au).set i (.int .i64 W[i])=(hvF W (i+1)).map au:=by
 rw[show(V.int .i64 W[i])=au W[i] from rfl,←rx];congr 1;unfold hvF;rw[pr _ _ (by simp;omega),qO,ri (by omega),qi,pJ h,show W.length-i=(W.length-(i+1))+1 by omega,List.replicate_succ,qp,pb,qj]
theorem hvF_all(W:List Int):hvF W W.length=W:=by simp[hvF]
def idF(I:List Int)(i j:Nat):List Int:=(I.take j).eraseIdx i
theorem idF_same{I:List Int}{i:Nat}(h:i<I.length):idF I i (i+1)=idF I i i:=by
 unfold idF;rw[List.eraseIdx_eq_take_drop_succ,List.eraseIdx_eq_take_drop_succ,List.take_take,List.take_take,ri (by omega),Nat.min_self,pF (by simp;omega),pF (by simp;omega)]
theorem idF_step{I:List Int}{i j:Nat}(h:j<I.length)(hne:¬j=i):idF I i (j+1)=idF I i j++[I[j]]:=by
 unfold idF;rw[pJ h]
 have hl:(I.take j).length=j:=by simp;omega
 by_cases hij:i<j
 ·rw[List.eraseIdx_append_of_lt_length (by omega)]
 ·rw[List.eraseIdx_append_of_length_le (by omega),List.eraseIdx_of_length_le (by simp;omega),List.eraseIdx_of_length_le (by omega)]
theorem exp_ints{H:List B}{k n:Nat}{fz:Bool}{l:List Int}(hk:H[k]?=some (.buf 2 1 (l.map au) fz))(hn:l.length=n):Exp H (.buf k 0 n n) (.lst 1 false (l.map au)):=by
 have:=Exp.buf (H:=H) k 0 n 2 1 (l.map au) fz hk (by simp[hn]) (fun x hx=>by obtain⟨y,_,rfl⟩:=List.mem_map.1 hx;simp[au]);rw[pc,hn,pT,pX (by simp[hn])]at this;exact this
theorem del_at{H:List B}{k n i:Nat}{l:List Int}(hk:H[k]?=some (.buf 2 1 (l.map au) false))(hn:l.length=n)(hn2:n≤1000000)(hi:i<n):
  aI Tryz.prog (.fn 28 []) [.buf k 0 n n,.int .i64 i,.int .i64 ((i:Int)+1)] H fun r H'=>r = .lst 1 false ((l.eraseIdx i).map au)∧H'=H.set k (.buf 2 1 ((l.eraseIdx i++[0]).map au) true):=by
 have hlt:=aB hk
 have e:JB H k l=H:=by
  unfold JB;apply qE;intro j;by_cases hj:j=k
  ·subst hj;rw[pO hlt,hk];rfl
  ·rw[pR (Ne.symm hj)]
 have cd:=deleteI_h hlt l n i hn hn2 hi;rw[e]at cd
 have he:(l.eraseIdx i).length=n-1:=by rw[qT (by omega),hn]
 refine(wcall_frz cd (JB_at hlt _) (by rw[iL_len,pK,he,List.length_singleton];omega)).mono fun r H' hr=>?_
 obtain⟨rfl,rfl⟩:=hr;refine⟨?_,?_⟩
 ·congr 1;rw[show iL (l.eraseIdx i++[0])=(l.eraseIdx i).map au++[au 0] from by simp[iL],rL (by rw[pc,he];omega),pX (by rw[pc,he];omega)]
 ·unfold JB;rw[qf];rfl
theorem rb_one{n:Nat}{c:V}(h:AM.Pure c)(h1:c.one=true):rb n c:=by
 cases h with
 | agg cs h=>cases h1
 | tup vs h=>cases h1
 | lst z f xs h=>exact h
 | pin cs off h=>exact h
 | fn f=>intro c hc;cases hc
 | _=>trivial
theorem jH{n:Nat}{cs:List V}(h:∀c∈cs,AM.Pure c∧c.one=true):rbB n (B.cells cs):=fun c hc=>rb_one (h c hc).1 (h c hc).2
theorem nK(n e:Nat)(l:List Int)(fz:Bool):rbB n (.buf e 1 (l.map au) fz):=fun x hx=>by
 obtain⟨y,_,rfl⟩:=List.mem_map.1 hx;intro c hc;simp only[au,V.cells,pD,pA,or_false]at hc;subst hc;trivial
def cnC(c:Cn):List V:=[.str c.name,.str c.table,.int .i64 c.kind,.int .u32 (c.fd.l:Int),.int .u32 (c.fd.r:Int),.int .u32 c.m1,.int .u32 c.m2,.str c.i1,L1 false c.i2,.str c.i3,L1 false c.i4,L1 false c.cfd.l,.int .i64 c.cfd.r,LCl false c.cfd.p,L1 false c.od.l,L1 false c.od.r,.int .i64 c.dn.vars,LA false c.dn.atoms]
theorem lawMonotone(x:Rcp)(rs:List Rul)(ws:List Int)(rule:Rul)(at_:Int)(f f2 f3:Bool)(h:C4Ok x rs ws)(hru:RulOk rule)(hat:0≤at_∧at_<256):aE Tryz.prog 7 [bL f f2 f3 x rs ws,aq rule,.int .u8 at_] fun r=>r = .bool true:=by
 have c1:=of_41 x rs ws f f2 f3 h;have hwd:=ofT_wide h;have c2:=ruleOf37 (ofT x).attrs.length rule hwd hru
 have R1:=fun hB=>case_ok h (hb:=hB)
 have F1:=fun hB hk=>mono_f h hB hru hk
 obtain⟨t,ht⟩:∃t,t=ofT x:=⟨_,rfl⟩;obtain⟨cs,hcs⟩:∃cs,cs=ofL4 x rs:=⟨_,rfl⟩;obtain⟨w,hw⟩:∃w,w=wOf (ofT x).rows.length ws:=⟨_,rfl⟩;obtain⟨c,hc⟩:∃c,c=iS (ofT x).attrs.length rule:=⟨_,rfl⟩;rw[←hw,←hcs,←ht]at c1 R1;rw[←hc,←ht]at c2;rw[←hc,←hw,←hcs,←ht]at F1;clear hc hw hcs ht hwd;by_cases hcase:mS x rs=true∧cR rule=true
 ·obtain⟨hB,hk⟩:=hcase;have R:=R1 hB;have Fo:=F1 hB hk;rw[hB]at c1;rw[hk]at c2;have hw6:=R.w6;have hl4:=R.l4;have hn6:=R.n;obtain⟨D1,N1,co1,a1,a2⟩:=opt_at R.b R.p (by omega);obtain⟨D2,N2,co2,b1,b2⟩:=opt_at Fo.b2 Fo.p2 (by omega);have hle:=Fo.le
  have hI:=fun i (hi:i<t.rows.length)=>mono_i R hi
  have hIo:=fun i (hi:i<t.rows.length)=>opt_at (hI i hi).b3 (hI i hi).p3 (by have:=List.length_eraseIdx_le (inW t w) i;have:=iA R.wl;omega)
  have hIx:=fun i (hi:i<t.rows.length)=>opt_at R.b (hI i hi).p4 (by rw[qK];have:=iA R.wl;omega)
  have hWl:=iA R.wl;obtain⟨R0,hR0⟩:∃R0,R0=t.rows:=⟨_,rfl⟩;obtain⟨Wt,hWt⟩:∃Wt,Wt=inW t w:=⟨_,rfl⟩;obtain⟨a,hae⟩:∃a,a=ij t cs w:=⟨_,rfl⟩;obtain⟨b,hbe⟩:∃b,b=ij t (cs++[c]) w:=⟨_,rfl⟩;rw[←hae]at co1 a1 a2 hle;rw[←hbe]at co2 b1 b2 hle
  have hIle:=fun i (hi:i<t.rows.length)=>And.intro (hI i hi).le1 (And.intro (hI i hi).le2 (And.intro (hI i hi).le3 (hI i hi).rg))
  rw[←hae]at hIle;rw[←hR0]at hWl hn6 hIle hIo hIx;rw[←hWt]at hWl hIle hIo hIx;have hwl:=R.wl;rw[←hR0]at hwl
  have hWw:∀i (hi:i<Wt.length),Wt[i]=if h:0<w.length then w.getD i 0 else 1:=fun i hi=>by
   subst hWt;by_cases h0:w=[]
   ·subst h0;simp[inW]
   ·have hp:=List.length_pos_iff.2 h0
    have he:inW t w=w:=by unfold inW;rw[if_neg h0]
    rw[dif_pos hp];simp only[he];rw[he]at hi;simp[qZ,hi]
  clear hI hbe hae;have cc:=cloneO_K cs false (by omega);have co1':=co1 false false false false;have co2':=co2 false false false false;have cw:=mG Wt false (by omega);obtain⟨n,hn⟩:∃n,n=R0.length:=⟨_,rfl⟩;rw[←hn]at hWl hn6
  have ck:=fun i=>keep03 t ((dl R0).eraseIdx i) false false false (by have:=(tbC (hU R.z).1).wide;omega) (by rw[←hR0,←hn];omega) (fun r hr=>by rw[(tbC (hU R.z).1).len r hr];have:=(tbC (hU R.z).1).wide;omega) (by have:=List.length_eraseIdx_le (dl R0) i;have:=gv R0;omega)
  simp only[bL,aF,LS,LR,LCn,L1,cE,LCl,LA,aq,LU,oI,LNd,qB,qW,rQ]at c1 c2 co1' co2' cc cw ck;rw[←hR0]at c1 co1' co2' ck
  have hcap:cs.length+1≤9223372036854775807∧(cs.length+1)*272≤140737488355328:=by omega
  have hcl:(cs.map cE).length=cs.length:=pc ..;obtain⟨m,hm⟩:∃m,m=cs.length:=⟨_,rfl⟩;obtain⟨CS,hCS⟩:∃CS,CS=cs.map cE:=⟨_,rfl⟩;rw[←hm]at hcap;rw[←hCS,←hm]at hcl;rw[←hCS]at c1 co1' co2' cc;obtain⟨G0,hG0⟩:∃G0,B.cells [.int .u8 x.a,.int .u8 x.gap,.lst 1 f (x.rows.map LU),.lst 10 f2 (rs.map aq),.lst 1 f3 (ws.map bp)]=G0:=⟨_,rfl⟩;obtain⟨G1,hG1⟩:∃G1,B.cells [.int .u8 rule.k,.int .u8 (rule.fd.l:Int),.int .u8 (rule.fd.r:Int),.int .u8 rule.cl,.int .u8 rule.cr,.lst 1 false (rule.cs.map bp),.lst 1 false (rule.xs.map bp),.lst 1 false (rule.ys.map bp),.int .u8 rule.nv,.lst 5 false (rule.sn.map cP)]=G1:=⟨_,rfl⟩
  have hCp:∀y∈CS,AM.Pure y:=fun y hy=>by rw[hCS]at hy;obtain⟨z,_,rfl⟩:=List.mem_map.1 hy;simp
  have hcl1:∀H:List B,aI Tryz.prog (.fn 14 []) [.lst 18 false CS] H fun r H'=>r = .buf H.length 0 m m∧H'=H++[B.buf 62 18 CS false]:=fun H=>(mJ (H:=H) cc (by simp;exact hCp)).mono (by
   rintro r H' ⟨e,z,xs,rfl,rfl,_,rfl,rfl,rfl⟩
   exact⟨by rw[hcl],rfl⟩)
  have hco:∀(k:Nat) (H:List B),H[k]?=some (B.buf 62 18 (CS++[.agg (cnC c)]) false)→aI Tryz.prog (.fn 18 []) [.agg [.str t.name,.lst 1 false (t.attrs.map V.str),.lst 2 false (R0.map aT)],.buf k 0 (m+1) (m+1),.lst 1 false (w.map au),.int .i64 10000] H fun r H'=>r = .tup [.agg [.lst 1 false (D2.map au),.int .i64 b,.lst 2 false (N2.map gl)],.int .i64 0]∧H'=H.set k (B.buf 62 18 (CS++[.agg (cnC c)]) true):=fun k H hk=>callF k (xs:=CS++[.agg (cnC c)]) hk co2' (by simp[hcl,cnC,L1,LCl,LA]) (by
   have hpc:AM.Pure (.agg (cnC c)):=encCn_pure c;simp only[cnC,L1,LCl,LA]at hpc;simp;intro y hy
   rcases hy with hy | rfl
   ·exact hCp y hy
   ·exact hpc)
  have hcp:∀y∈cnC c,AM.Pure y∧y.one=true:=fun y hy=>by
   simp only[cnC,L1,LCl,LA,pD,pA,or_false]at hy
   rcases hy with rfl | rfl | rfl | rfl | rfl | rfl | rfl | rfl | rfl | rfl | rfl | rfl | rfl | rfl | rfl | rfl | rfl | rfl<;>simp[V.one]
  obtain⟨G3,hG3⟩:∃G3,B.cells (cnC c)=G3:=⟨_,rfl⟩;obtain⟨G5,hG5⟩:∃G5,B.buf 62 18 (CS++[.agg (cnC c)]) true=G5:=⟨_,rfl⟩
  have hr3:∀n,rbB n G3:=fun n=>by rw[←hG3];exact jH hcp
  have hr5:∀n,rbB n G5:=fun n=>by
   rw[←hG5];intro y hy
   rcases List.mem_append.1 hy with hy | hy
   ·rw[hCS]at hy;obtain⟨z,_,rfl⟩:=List.mem_map.1 hy
    exact fun d hd=>(jH (n:=n) (cs:=(cE z).cells) (fun d hd=>by
     have h1:=encCn_pure z;simp only[cE]at h1 hd;simp only[V.cells]at hd
     cases h1 with
     | agg cs h=>exact⟨h d hd,by simp only[L1,LCl,LA,pD,pA,or_false]at hd;rcases hd with rfl | rfl | rfl | rfl | rfl | rfl | rfl | rfl | rfl | rfl | rfl | rfl | rfl | rfl | rfl | rfl | rfl | rfl<;>rfl⟩)) d hd
   ·rw[pe]at hy;subst hy;exact jH hcp
  have hr0:∀n,rbB n G0:=fun n=>by
   rw[←hG0]
   refine jH fun y hy=>?_
   simp only[pD,pA,or_false]at hy
   rcases hy with rfl | rfl | rfl | rfl | rfl<;>simp[V.one]
  have hr1:∀n,rbB n G1:=fun n=>by
   rw[←hG1]
   refine jH fun y hy=>?_
   simp only[pD,pA,or_false]at hy
   rcases hy with rfl | rfl | rfl | rfl | rfl | rfl | rfl | rfl | rfl | rfl<;>simp[V.one,bp]
  have hrT:∀n,rbB n (B.cells [.str t.name,.lst 1 false (t.attrs.map V.str),.lst 2 false (R0.map aT)]):=fun n=>jH fun y hy=>by
   simp only[pD,pA,or_false]at hy
   rcases hy with rfl | rfl | rfl<;>simp[V.one]
  have hrA:∀n (D:List Int) (z:Int) (N:List Nde),rbB n (B.cells [.lst 1 false (D.map au),.int .i64 z,.lst 2 false (N.map gl)]):=fun n D z N=>jH fun y hy=>by
   simp only[pD,pA,or_false]at hy
   rcases hy with rfl | rfl | rfl<;>simp[V.one]
  simp only[cnC,L1,LCl,LA]at hG3 hG5
  have hle2:¬b<a:=by omega
  have hcv:IntKind.i64.wrap at_=at_:=wrap64 (by omega) (by omega)
  have hmk:8*(n:Int)≤281474976710656∧(n:Int)≤9223372036854775807:=by omega
  rcases Nat.eq_zero_or_pos n with hn0 | hn0
  case' inr =>
   have hnp:¬n=0:=by omega
   obtain⟨i0,hi0n,hmod⟩:∃i0,i0<n∧at_.tmod (n:Int)=((i0:Nat):Int):=by
    obtain⟨z,rfl⟩:=qy hat.1;exact⟨z % n,sD _ hn0,Int.ofNat_tmod z n▸rfl⟩
  rotate_left
  all_goals
   refine sPx Tryz.func7 rfl rfl ?_;simp -dsimp[Tryz.f7,ou,bL,aq,LU];refine cPx (c1) (by simp) ?_;simp -dsimp[];refine cPx (c2) (by simp) ?_;simp -dsimp[];refine cPx (cj) (by simp) ?_;simp -dsimp[];refine cPx (co1') (by simp;exact hCp) ?_;simp -dsimp[hG0,hG1]
   refine aR (W_drawN tok mixed [([11,2,5,7,12],[(0,[0,1,2,3,4,5]),(3,[0,1,2,3,4,5]),(4,[0,1,2,3,4,5])],[[G0,G1,B.cells [.str t.name,.lst 1 false (t.attrs.map V.str),.lst 2 false (R0.map aT)],B.cells (cnC c),B.cells [.lst 1 false (D1.map au),.int .i64 a,.lst 2 false (N1.map gl)],B.cells [.nilS,.int .i64 0,.nilS]],[G0,G1,B.cells [.str t.name,.lst 1 false (t.attrs.map V.str),.lst 2 false (R0.map aT)],B.cells (cnC c),B.cells [.lst 1 false (D1.map au),.int .i64 a,.lst 2 false (N1.map gl)],B.cells [.nilS,.int .i64 0,.nilS],B.buf 62 18 CS false],[G0,G1,B.cells [.str t.name,.lst 1 false (t.attrs.map V.str),.lst 2 false (R0.map aT)],B.cells (cnC c),B.cells [.lst 1 false (D1.map au),.int .i64 a,.lst 2 false (N1.map gl)],B.cells [.nilS,.int .i64 0,.nilS],B.buf 62 18 (CS++[.agg (cnC c)]) false],[G0,G1,B.cells [.str t.name,.lst 1 false (t.attrs.map V.str),.lst 2 false (R0.map aT)],B.cells (cnC c),B.cells [.lst 1 false (D1.map au),.int .i64 a,.lst 2 false (N1.map gl)],B.cells [.nilS,.int .i64 0,.nilS],B.buf 62 18 (CS++[.agg (cnC c)]) true],[G0,G1,B.cells [.str t.name,.lst 1 false (t.attrs.map V.str),.lst 2 false (R0.map aT)],B.cells (cnC c),B.cells [.lst 1 false (D1.map au),.int .i64 a,.lst 2 false (N1.map gl)],B.cells [.lst 1 false (D2.map au),.int .i64 b,.lst 2 false (N2.map gl)],B.buf 62 18 (CS++[.agg (cnC c)]) true]],[.buf 6 0 m m,.tup [.agg [.lst 1 false (D2.map au),.int .i64 b,.lst 2 false (N2.map gl)],.int .i64 0]]),
    ([2,11,5,7,12],[(0,[0,1,2,3,4,5]),(3,[0,1,2,3,4,5]),(4,[0,1,2,3,4,5])],[[G0,G1,B.cells [.str t.name,.lst 1 false (t.attrs.map V.str),.lst 2 false (R0.map aT)],B.cells (cnC c),B.cells [.lst 1 false (D1.map au),.int .i64 a,.lst 2 false (N1.map gl)],B.buf 62 18 CS false],[G0,G1,B.cells [.str t.name,.lst 1 false (t.attrs.map V.str),.lst 2 false (R0.map aT)],B.cells (cnC c),B.cells [.lst 1 false (D1.map au),.int .i64 a,.lst 2 false (N1.map gl)],B.buf 62 18 CS false,B.cells [.nilS,.int .i64 0,.nilS]],[G0,G1,B.cells [.str t.name,.lst 1 false (t.attrs.map V.str),.lst 2 false (R0.map aT)],B.cells (cnC c),B.cells [.lst 1 false (D1.map au),.int .i64 a,.lst 2 false (N1.map gl)],B.buf 62 18 (CS++[.agg (cnC c)]) false,B.cells [.nilS,.int .i64 0,.nilS]],[G0,G1,B.cells [.str t.name,.lst 1 false (t.attrs.map V.str),.lst 2 false (R0.map aT)],B.cells (cnC c),B.cells [.lst 1 false (D1.map au),.int .i64 a,.lst 2 false (N1.map gl)],B.buf 62 18 (CS++[.agg (cnC c)]) true,B.cells [.nilS,.int .i64 0,.nilS]],[G0,G1,B.cells [.str t.name,.lst 1 false (t.attrs.map V.str),.lst 2 false (R0.map aT)],B.cells (cnC c),B.cells [.lst 1 false (D1.map au),.int .i64 a,.lst 2 false (N1.map gl)],B.buf 62 18 (CS++[.agg (cnC c)]) true,B.cells [.lst 1 false (D2.map au),.int .i64 b,.lst 2 false (N2.map gl)]]],[.buf 5 0 m m,.tup [.agg [.lst 1 false (D2.map au),.int .i64 b,.lst 2 false (N2.map gl)],.int .i64 0]]),
    ([2,5,11,7,12],[(0,[0,1,2,3,4,5]),(3,[0,1,2,3,4,5]),(4,[0,1,2,3,4,5])],[[G0,G1,B.cells [.str t.name,.lst 1 false (t.attrs.map V.str),.lst 2 false (R0.map aT)],B.cells (cnC c),B.cells [.lst 1 false (D1.map au),.int .i64 a,.lst 2 false (N1.map gl)],B.buf 62 18 CS false],[G0,G1,B.cells [.str t.name,.lst 1 false (t.attrs.map V.str),.lst 2 false (R0.map aT)],B.cells (cnC c),B.cells [.lst 1 false (D1.map au),.int .i64 a,.lst 2 false (N1.map gl)],B.buf 62 18 (CS++[.agg (cnC c)]) false],[G0,G1,B.cells [.str t.name,.lst 1 false (t.attrs.map V.str),.lst 2 false (R0.map aT)],B.cells (cnC c),B.cells [.lst 1 false (D1.map au),.int .i64 a,.lst 2 false (N1.map gl)],B.buf 62 18 (CS++[.agg (cnC c)]) false,B.cells [.nilS,.int .i64 0,.nilS]],[G0,G1,B.cells [.str t.name,.lst 1 false (t.attrs.map V.str),.lst 2 false (R0.map aT)],B.cells (cnC c),B.cells [.lst 1 false (D1.map au),.int .i64 a,.lst 2 false (N1.map gl)],B.buf 62 18 (CS++[.agg (cnC c)]) true,B.cells [.nilS,.int .i64 0,.nilS]],[G0,G1,B.cells [.str t.name,.lst 1 false (t.attrs.map V.str),.lst 2 false (R0.map aT)],B.cells (cnC c),B.cells [.lst 1 false (D1.map au),.int .i64 a,.lst 2 false (N1.map gl)],B.buf 62 18 (CS++[.agg (cnC c)]) true,B.cells [.lst 1 false (D2.map au),.int .i64 b,.lst 2 false (N2.map gl)]]],[.buf 5 0 m m,.tup [.agg [.lst 1 false (D2.map au),.int .i64 b,.lst 2 false (N2.map gl)],.int .i64 0]]),
    ([2,5,7,11,12],[(0,[0,1,2,3,4,5]),(3,[0,1,2,3,4,5]),(4,[0,1,2,3,4,5])],[[G0,G1,B.cells [.str t.name,.lst 1 false (t.attrs.map V.str),.lst 2 false (R0.map aT)],B.cells (cnC c),B.cells [.lst 1 false (D1.map au),.int .i64 a,.lst 2 false (N1.map gl)],B.buf 62 18 CS false],[G0,G1,B.cells [.str t.name,.lst 1 false (t.attrs.map V.str),.lst 2 false (R0.map aT)],B.cells (cnC c),B.cells [.lst 1 false (D1.map au),.int .i64 a,.lst 2 false (N1.map gl)],B.buf 62 18 (CS++[.agg (cnC c)]) false],[G0,G1,B.cells [.str t.name,.lst 1 false (t.attrs.map V.str),.lst 2 false (R0.map aT)],B.cells (cnC c),B.cells [.lst 1 false (D1.map au),.int .i64 a,.lst 2 false (N1.map gl)],B.buf 62 18 (CS++[.agg (cnC c)]) true],[G0,G1,B.cells [.str t.name,.lst 1 false (t.attrs.map V.str),.lst 2 false (R0.map aT)],B.cells (cnC c),B.cells [.lst 1 false (D1.map au),.int .i64 a,.lst 2 false (N1.map gl)],B.buf 62 18 (CS++[.agg (cnC c)]) true,B.cells [.nilS,.int .i64 0,.nilS]],[G0,G1,B.cells [.str t.name,.lst 1 false (t.attrs.map V.str),.lst 2 false (R0.map aT)],B.cells (cnC c),B.cells [.lst 1 false (D1.map au),.int .i64 a,.lst 2 false (N1.map gl)],B.buf 62 18 (CS++[.agg (cnC c)]) true,B.cells [.lst 1 false (D2.map au),.int .i64 b,.lst 2 false (N2.map gl)]]],[.buf 5 0 m m,.tup [.agg [.lst 1 false (D2.map au),.int .i64 b,.lst 2 false (N2.map gl)],.int .i64 0]])]
    [(0,[0,1,3,4,6]),(1,[0,1,2,3,4,6,11]),(2,[0,1,2,3,4,5,6,11]),(3,[0,1,2,3,4,5,6,7,8,9,10,11,12,13]),(4,[0,1,2,3,4,5,6,7,8,9,10,11,12,13]),(5,[0,1,2,3,4,5,6,7,8,9,10,11,12,13])] [([11,2,5,7,12],[(0,[0,1,2,3,4,5]),(3,[0,1,2,3,4,5]),(4,[0,1,2,3,4,5])]),([2,11,5,7,12],[(0,[0,1,2,3,4,5]),(3,[0,1,2,3,4,5]),(4,[0,1,2,3,4,5])]),([2,5,11,7,12],[(0,[0,1,2,3,4,5]),(3,[0,1,2,3,4,5]),(4,[0,1,2,3,4,5])]),([2,5,7,11,12],[(0,[0,1,2,3,4,5]),(3,[0,1,2,3,4,5]),(4,[0,1,2,3,4,5])])] rfl (by kernel_rfl) fun C K hC hK=>?_)
   simp -implicitDefEqProofs [List.idxOf_cons,cnC,L1,LCl,LA,hcl,hcap]
   repeat' (first | exact hC _ _ _ _ (hcl1 _) | exact hC _ _ _ _ (hco _ _ rfl) | refine And.intro ?_ ?_)
  all_goals clear hC
  ·apply hK;clear hK;rw[hG3];rw[hG5];simp -dsimp[hle2,hn.symm,hn0,hle]
  ·apply hK;clear hK;rw[hG3];rw[hG5];simp -dsimp[hle2,hn.symm,hn0,hle]
  all_goals
   apply hK;clear hK;rw[hG3];rw[hG5];simp -dsimp[hle2,hn.symm,hnp,hmod,hcv,hmk];refine aR (W_loopK [false,false,false,false,false,false,false,false,false,false,false,false,false,false,false,false,false,false,false,true,false,false,false,false,false,false,false,false,true,true,true,true,false,false,false,true,false,false,false,true,true,true,false,false,false,false,false,false,false,false,false,false,false,false,true,true,false,false,true,true,false,true,true,false,true,true,true,true,false,true,true,false,false,false,false,false,false,false,false,false,false,false,false,false,false,false,false,false,false,false,false,false,false,false,false,false,false,false,false,false,false,false,false,false,false,false,true,true,true,true,true,true,true,true,true,true,true,true,true,true,true,true,true] 7 (fun i=>B.buf 2 1 ((hvF Wt i).map au) false) (σ:=Nat) (fun i=>i≤n) (fun i=>n-i) (fun i=>[(106,.int .i64 i)]) 0 (by omega) (by simp) (by simp[hvF,hWl,au]) ?_);intro i hi N Q hN hQ
   have hlv:(hvF Wt i).length=n:=by rw[hvF_len Wt i (by omega),hWl]
   by_cases hb:i<n
   ·have hbW:i<Wt.length:=by omega
    have hs:=hvF_set hbW;have hw1:=hWw i hbW;obtain⟨M0,hM0⟩:∃M0,M0=(hvF Wt i).map au:=⟨_,rfl⟩;obtain⟨M1,hM1⟩:∃M1,M1=(hvF Wt (i+1)).map au:=⟨_,rfl⟩
    have hl0:M0.length=n:=by rw[hM0,pc,hlv]
    obtain⟨z,hz⟩:∃z:Int,M0[i]?=some (.int .i64 z):=by rw[hM0];exact⟨_,by rw[pj,ov (by rw[hlv];exact hb)];rfl⟩
    have hz':∀q,M0[i]'q = .int .i64 z:=fun q=>by rw[ov q]at hz;exact Option.some.inj hz
    rw[←hM0,←hM1]at hs;rw[←hM0];by_cases hw0:0<w.length
    ·rw[dif_pos hw0]at hw1
     have hwl2:w.length=n:=by rcases hwl with e | e;subst e;simp at hw0;omega
     have hiw:i<w.length:=by omega
     have hwi:w[i]=Wt[i]:=by rw[hw1];simp[qZ,hiw]
     obtain⟨v,hv⟩:∃v,v=Wt[i]:=⟨_,rfl⟩;rw[←hv]at hs hwi;refine wx ?_;simp -dsimp[hb,hl0,hw0,hiw,hwi,au,hz,hz',qf,hs,aa i (by omega)];refine hN (i+1) _ _ (by omega) (by omega) (by simp) ⟨[],by simp[hM1]⟩ (by simp;exact hCp) ?_;intro bl hbl;simp only[rT,qp,pD,pA,or_false]at hbl
     rcases hbl with rfl | rfl | rfl | rfl | rfl | rfl | rfl | rfl<;>first | exact hr0 _ | exact hr1 _ | exact hr3 _ | exact hr5 _ | exact hrT _ | exact hrA _ _ _ _ | exact nK _ _ _ _
    ·rw[dif_neg hw0]at hw1;rw[hw1]at hs;refine wx ?_;simp -dsimp[hb,hl0,hw0,au,hz,hz',hs,aa i (by omega)];refine hN (i+1) _ _ (by omega) (by omega) (by simp) ⟨[],by simp[hM1]⟩ (by simp;exact hCp) ?_;intro bl hbl;simp only[rT,qp,pD,pA,or_false]at hbl
     rcases hbl with rfl | rfl | rfl | rfl | rfl | rfl | rfl | rfl<;>first | exact hr0 _ | exact hr1 _ | exact hr3 _ | exact hr5 _ | exact hrT _ | exact hrA _ _ _ _ | exact nK _ _ _ _
   ·obtain rfl:i=n:=by omega
    have hall:=hvF_all Wt;rw[hWl]at hall;rw[hall]
    have hiW:i0<Wt.length:=by omega
    have hiR:i0<R0.length:=by omega
    obtain⟨own,hown⟩:∃own,own=Wt[i0]:=⟨_,rfl⟩
    have hgd:Wt.getD i0 0=own:=by rw[hown];simp[qZ,hiW]
    obtain⟨l1,l2,l3,l4,l5⟩:=hIle i0 hiR;obtain⟨D3,N3,co3,d1,d2⟩:=hIo i0 hiR;obtain⟨D4,N4,co4,x1,x2⟩:=hIx i0 hiR;have ck0:=ck i0;rw[hgd]at l2 l3 l4 l5 co4 x1 x2;obtain⟨T3,hT3⟩:∃T3,T3=kT ((dl R0).eraseIdx i0) t:=⟨_,rfl⟩;obtain⟨I3,hI3⟩:∃I3,I3=(dl R0).eraseIdx i0:=⟨_,rfl⟩;rw[←hT3]at co3 ck0 l1 l2 d1 d2;obtain⟨d,hd⟩:∃d,d=ij T3 cs (Wt.eraseIdx i0):=⟨_,rfl⟩;obtain⟨xw,hxw⟩:∃xw,xw=ij t cs (Wt.set i0 (own+5)):=⟨_,rfl⟩;rw[←hd]at co3 l1 l2 d1 d2;rw[←hxw]at co4 l3 x1 x2;have co3:=co3 false false false false;have co4:=co4 false false false false;simp only[aF,LS,LR,LCn,L1,oI,LNd]at co3 co4;rw[←hCS]at co3 co4;rw[←hR0]at co4;have hw5:IntKind.i64.wrap (own+5)=own+5:=wrap64 (by omega) (by omega);have hwd:IntKind.i64.wrap (d+own)=d+own:=wrap64 (by omega) (by omega)
    have hset:(Wt.map au).set i0 (.int .i64 (own+5))=(Wt.set i0 (own+5)).map au:=by rw[rx];rfl
    obtain⟨M5,hM5⟩:∃M5,M5=(Wt.set i0 (own+5)).map au:=⟨_,rfl⟩
    have hM5l:M5.length=i:=by rw[hM5,pc,qK,hWl]
    rw[←hM5]at hset co4;refine wx ?_;simp -dsimp[hb];refine hQ _ _ _ ?_;simp -dsimp[hiW,hWl,hown.symm,au,hi0n];obtain⟨I,hI⟩:∃I,I=dl R0:=⟨_,rfl⟩
    have hIl:I.length=i:=by rw[hI];unfold dl;rw[pc];omega
    have hIat:∀(j:Nat) (hj:j<R0.length),I[j]'(by omega)=R0[j].id:=fun j hj=>by subst hI;simp[dl]
    have hIdl:∀j,(idF I i0 j).length≤6:=fun j=>by
     unfold idF;have:=List.length_eraseIdx_le (I.take j) i0
     have:(I.take j).length≤I.length:=by rw[qO];omega
     omega
    have hid:idF I i0 i=I3:=by unfold idF;rw[pX (by omega),hI3,hI]
    rw[←hI3]at ck0;refine aR (iR 2 1 [21] (by simp) (W_loopK [false,false,false,false,false,false,false,false,false,false,false,false,false,false,false,false,false,false,false,false,false,true,true,true,false,false,false,false,true,true,true,true,false,false,false,true,false,false,false,true,true,true,false,false,false,false,false,false,false,false,false,false,false,false,true,true,false,false,true,true,false,true,true,false,true,true,true,true,false,true,true,false,false,false,false,false,false,false,false,false,false,false,false,false,false,false,false,false,false,false,false,false,false,false,false,false,false,false,false,false,false,false,false,false,false,false,false,false,false,false,false,false,false,false,false,false,false,false,false,false,false,false,false,false,false,false,false,false,false,false,true,true,true,true,true,true,true,true,true,true,true,true,true,true] 8 (fun j=>B.buf 2 1 ((idF I i0 j).map au) false) (σ:=Nat) (fun j=>j≤i) (fun j=>i-j) (fun j=>[(130,.int .i64 j),(21,.buf 8 0 (idF I i0 j).length (idF I i0 j).length)]) 0 (by omega) (by simp[idF]) (by simp[idF]) ?_));intro j hj N2 Q2 hN2 hQ2;by_cases hjb:j<i
    ·have hjR:j<R0.length:=by omega
     obtain⟨r,hr⟩:∃r,r=R0[j]:=⟨_,rfl⟩;have hjl:=hIdl j;obtain⟨y,hy⟩:∃y,y=idF I i0 j:=⟨_,rfl⟩;obtain⟨k,hk⟩:∃k,k=y.length:=⟨_,rfl⟩;by_cases hji:j=i0
     ·subst hji
      have hst:idF I j (j+1)=y:=by rw[hy];exact idF_same (by omega)
      rw[←hy];refine wx ?_;simp -dsimp[hjR,hr.symm,aT,LV,aa j (by omega)];refine hN2 (j+1) _ _ (by omega) (by omega) (by simp[hst]) ⟨[B.cells [.int .i64 r.id,.lst 3 false (r.vals.map ac)]],by simp[hst]⟩ (by simp;exact hCp) ?_;intro bl hbl;simp only[pn,pU,rT,qp,pD,pA,or_false]at hbl
      rcases hbl with rfl | rfl | rfl | rfl | rfl | rfl | rfl | rfl | rfl<;>first | exact hr0 _ | exact hr1 _ | exact hr3 _ | exact hr5 _ | exact hrT _ | exact hrA _ _ _ _ | exact nK _ _ _ _
     ·have hst:idF I i0 (j+1)=y++[r.id]:=by rw[hy,idF_step (by omega) hji,hIat j hjR,hr]
      rw[←hy,←hk]at hjl;rw[←hy];refine wx ?_;simp -dsimp[hjR,hr.symm,aT,LV,show ¬(j:Int)=i0 by omega,hk.symm,cap8b k (by omega),aa j (by omega)];refine hN2 (j+1) _ _ (by omega) (by omega) (by simp[hst,hk.symm]) ⟨[B.cells [.int .i64 r.id,.lst 3 false (r.vals.map ac)]],by simp[hst,au]⟩ (by simp;exact hCp) ?_;intro bl hbl;simp only[pn,pU,rT,qp,pD,pA,or_false]at hbl
      rcases hbl with rfl | rfl | rfl | rfl | rfl | rfl | rfl | rfl | rfl<;>first | exact hr0 _ | exact hr1 _ | exact hr3 _ | exact hr5 _ | exact hrT _ | exact hrA _ _ _ _ | exact nK _ _ _ _
    ·obtain rfl:j=i:=by omega
     rw[hid];refine gY 8 [21] rfl (by simp) ?_;refine wx ?_;simp -dsimp[show ¬j<R0.length by omega];refine hQ2 _ _ _ ?_;simp -dsimp[];refine cPx (ck0) (by simp) ?_;simp -dsimp[]
     have hM5p:∀y∈M5,AM.Pure y:=fun y hy=>by rw[hM5]at hy;obtain⟨z,_,rfl⟩:=List.mem_map.1 hy;simp[au]
     refine(callOX (args:=[.buf 7 0 j j]) cw rfl ?_ ?_).mono ?_
     ·intro q a1 a2 ha1 ha2
      match q with
      | 0 =>
       simp at ha1 ha2;subst ha1;subst ha2;exact exp_ints rfl hWl
      | q+1=>simp at ha1
     ·rintro e z xs ⟨_,_,rfl⟩ y hy d hd;obtain⟨v,_,rfl⟩:=List.mem_map.1 hy;simp only[au,V.cells,pD,pA,or_false]at hd;subst hd;exact .int _ _
     ·rintro r H' ⟨e,z,xs,rfl,rfl,_,rfl,rfl,rfl⟩;simp -dsimp[hWl,aa i0 (by omega)];refine(del_at (k:=9) (l:=Wt) rfl hWl (by omega) hi0n).mono ?_;rintro r H' ⟨rfl,rfl⟩;simp -dsimp[];refine cPx co3 (by simp;exact hCp) ?_;simp -dsimp[hiW,hWl,hown.symm,au,hi0n,hw5,hset];refine(callF 7 (xs:=M5) rfl co4 (by simp[hM5l]) (by simp;exact⟨hCp,hM5p⟩)).mono ?_;rintro r H' ⟨rfl,rfl⟩;simp -dsimp[hwd,l1,l2,l3]
 ·have hnot:mS x rs=false∨cR rule=false:=by
   cases h1:mS x rs<;>cases h2:cR rule<;>simp_all
  simp only[bL,aF,LS,LR,LCn,L1,cE,LCl,LA,aq,LU]at c1 c2
  rcases hnot with hB | hk
  ·rw[hB]at c1;refine sPx Tryz.func7 rfl rfl ?_;simp -dsimp[Tryz.f7,ou,bL,aq,LU];refine cPx (c1) (by simp) ?_;simp -dsimp[];refine cPx (c2) (by simp) ?_;simp -dsimp[];refine cPx (cj) (by simp) ?_;simp -dsimp[];refine cPx (cj) (by simp) ?_;simp -dsimp[]
  ·rw[hk]at c2;cases hB:mS x rs<;>rw[hB]at c1
   all_goals skip
   ·refine sPx Tryz.func7 rfl rfl ?_;simp -dsimp[Tryz.f7,ou,bL,aq,LU];refine cPx (c1) (by simp) ?_;simp -dsimp[];refine cPx (c2) (by simp) ?_;simp -dsimp[];refine cPx (cj) (by simp) ?_;simp -dsimp[];refine cPx (cj) (by simp) ?_;simp -dsimp[]
   ·refine sPx Tryz.func7 rfl rfl ?_;simp -dsimp[Tryz.f7,ou,bL,aq,LU];refine cPx (c1) (by simp) ?_;simp -dsimp[];refine cPx (c2) (by simp) ?_;simp -dsimp[];refine cPx (cj) (by simp) ?_;simp -dsimp[];refine cPx (cj) (by simp) ?_;simp -dsimp[]
end Go.Proofs.YtjogkbekekdkjaaGreatDoor
end
