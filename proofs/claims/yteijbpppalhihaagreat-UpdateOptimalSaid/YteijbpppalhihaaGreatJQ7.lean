/- JQ7: own texts of this seat, joined and shortened by pack.py: ClS, Z1, Z2, Z5, Q7, Q8, H8, H9, H10, Ag, H11, H12, P0, P1, Q2, Q3, P3, C4a, C4b, C4c. -/
import Derived.Test.YteijbpppalhihaaGreatJQ6
set_option linter.unusedVariables false
set_option linter.unusedSimpArgs false
set_option maxRecDepth 100000
set_option maxHeartbeats 64000000
namespace Go.Proofs.YteijbpppalhihaaGreat
section
open Go Go.AM Go.RowKit
theorem infoD_S:(Tryz.prog.info? 9).map (fun i=>(i.zero,i.size,i.bytes))=some (some (.string ⟨#[]⟩),1,16):=by kernel_rfl
theorem cloneE_S(A:Option Addr)(cap:Nat)(w:World):
  Calls Tryz.prog 53 #[.slice A 0 cap] w fun e w'=>∃v,e = .returned v∧w'.ownsRow w.heap.size 9 1 v 0 []∧Below w.heap.size w w':=by
 have hnil:=fun W A n c=>Lib.run_eql_slice_nil (P:=Tryz.prog) W 29 9 A n c 0 0 Tryz.underlying29
 cases A with
 | none =>
  go_enter Tryz.func53,Tryz.ntmps53
  go_wp2
  go_ret
  exact⟨_,rfl,World.ownsRow_nil _ _ _ _,Below.refl _ _⟩
 | some ad =>
  obtain⟨i0,hi,hz0,hz1,hz2⟩:=info_parts infoD_S;have hown:(w.alloc (.cells #[] 9)).ownsRow w.heap.size 9 1 (.slice (some ⟨w.heap.size,0,none⟩) 0 0) 0 []:=World.ownsRow_lit w #[] 0 (Nat.le_refl _) (by simp[maxLen]) (by simp)
  have hnews:∀j u,([]:List Value)[j]?=some u→(w.alloc (.cells #[] 9)).cell? (ad.add j)=some u:=by
   intro j u hu;simp at hu
  have hone:∀u∈([]:List Value),u.oneCell'=true:=by intro u hu;cases hu
  have h63:0+0≤maxLen:=by simp[maxLen]
  have hby:(0+0)*16≤140737488355328:=by omega
  have hlen:([]:List Value).length=0*1:=by simp
  have Hi:=Lib.hid (show Tryz.prog.info? 9=some i0∧i0.zero=some _∧i0.size=1∧i0.bytes=16 from⟨hi,hz0,hz1,hz2⟩);have Hw:=Lib.hid (And.intro hown (And.intro hnews (And.intro hone (And.intro h63 (And.intro hby hlen)))));clear hnews hone hown hi hz0 hz1 hz2 h63 hby hlen
  go_enter Tryz.func53,Tryz.ntmps53
  go_wp2_with (at_builtin;refine wpList_append_own _ rfl _ _ 29 rfl w.heap.size 9 i0 _ 1 16 Tryz.underlying29 Hi.out.1 Hi.out.2.1 Hi.out.2.2.1 Hi.out.2.2.2 rfl (by omega) (.slice (some ⟨w.heap.size,0,none⟩) 0 0) 0 [] rfl Hw.out.1 ad 0 cap [] rfl Hw.out.2.2.2.2.2 Hw.out.2.1 Hw.out.2.2.1 Hw.out.2.2.2.1 Hw.out.2.2.2.2.1 (by simp) ?_;intro v1 w1 ho hg hn;have Ho:=Lib.hid ho;have Hg:=Lib.hid hg;have Hn:=Lib.hid hn;clear ho hg hn)
  go_ret
  exact⟨v1,rfl,by have:=Ho.out;simpa using this,((Below.refl _ _).alloc (Nat.le_refl _) _).grown Hg.out (by simp) (by simp[Value.ownBlock])⟩
theorem cloneN_S:∀(f:Bool),aR Tryz.prog 53 [.lst 1 f []] fun r=>r = .lst 1 false []:=fun f=>by
 have hO:kX Tryz.prog 53 [.lst 1 f []] fun e z ys=>e=9∧z=1∧ys=[]:=nR ⟨Tryz.f53,Tryz.func53,rfl,rfl⟩ (fun F w vals hsz hrel=>by
  obtain⟨u0,rfl⟩:∃u0,vals = #[u0]:=by
   obtain⟨l⟩:=vals
   match l,hsz with
   | [a],_=>exact⟨a,rfl⟩
  have r0:=hrel 0 _ u0 rfl rfl;cases r0
  refine(cloneE_S _ _ _).mono fun e' w' ⟨v,he,hown,hb⟩=>⟨v,he,hb,?_⟩
  obtain⟨_,⟨hv,_⟩ | ⟨g,c,cur,hv,hg,hc,hn,hm,hs,_⟩⟩:=hown
  ·exact .inl hv
  ·exact .inr ⟨g,c,cur,hv,hg,hc,hm,hs⟩)
 refine⟨hO.1,fun F w vals hZ hF hsz hrel=>((jD hO).2 F w vals hZ hF hsz hrel).mono fun e w' ⟨u,r,h1,h2,h3,h4,e',z,ys,h5,h6,h7,h8⟩=>?_⟩;subst h6;subst h7;subst h8;exact⟨u,r,h1,h2,h3,h4,h5⟩
theorem clone_S(l:List ByteArray)(f:Bool)(hl:l.length≤1000000):aR Tryz.prog 53 [LS f l] fun r=>r=LS false l:=by
 cases l with
 | nil=>exact cloneN_S f
 | cons x xs =>
  have hl':xs.length≤1000000:=by simp only[List.length_cons]at hl;omega
  refine aC (aD tok Tryz.func53 rfl rfl ?_);refine wx ?_;simp -implicitDefEqProofs -dsimp[Tryz.f53,List.replicate,LS,gT,oA xs.length (by omega),List.map];exact dK rfl (by simp) (by simp)
end
end Go.Proofs.YteijbpppalhihaaGreat
namespace Go.Proofs.YteijbpppalhihaaGreat
section
open Go Go.AM
theorem root_at{q:Prob}{P:List Nat}{r h:Nat→Nat}(f:Frt q P r h){H:List B}{n N:Nat}(hNe:q.m*q.n=N)(hN:N≤1000000)(h3:H[3]?=some (.cells [.int .i64 n,.buf 4 0 N N,.buf 5 0 N N]))(h4:H[4]?=some (.buf 3 1 (paL P) false))(h5:H[5]?=some (.buf 113 1 (knL q.K N) false))(hrb:∀bl∈H,rbB H.length bl)(x:Nat)(hx:x<N):
  bA Tryz.prog 54 [.ptr 3 0,.int .i64 x] H fun r' H'=>r' = .int .i64 (r x)∧H'=H:=by
 have hl:=aE h4
 have hset:∀P',∀bl∈Ht H 4 P',rbB H.length bl:=fun P' bl hbl=>by
  unfold Ht at hbl
  rcases List.mem_or_eq_of_mem_set hbl with e | e
  ·exact hrb bl e
  ·subst e;simp
 have g:HOk H 3 4 5 n N q.K:=⟨h3,hl,h5,by omega,by omega,hset⟩
 have hsame:Ht H 4 P=H:=by
  unfold Ht;apply List.ext_getElem?;intro k;by_cases hk:4=k
  ·subst hk;rw[List.getElem?_set_self hl,h4]
  ·rw[List.getElem?_set_ne hk]
 have:=pK f hNe g hN x hx;rw[hsame]at this;exact this
def gl(t:Tb):Nat→List Int
 | 0=>[]
 | x+1=>if(bC t x).k=3 then addK (gl t x) (bC t x).n else gl t x
theorem usTo_yes{t:Tb}{x:Nat}(h:(bC t x).k=3):gl t (x+1)=addK (gl t x) (bC t x).n:=by rw[gl,if_pos h]
theorem usTo_no{t:Tb}{x:Nat}(h:¬(bC t x).k=3):gl t (x+1)=gl t x:=by rw[gl,if_neg h]
theorem usTo_mem(t:Tb)(k:Int):∀x,k∈gl t x↔∃y,y<x∧(bC t y).k=3∧(bC t y).n=k
 | 0=>by simp[gl]
 | x+1=>by
  have ih:=usTo_mem t k x;by_cases h:(bC t x).k=3
  ·rw[usTo_yes h,addK_mem,ih];constructor
   ·rintro(⟨y,h1,h2,h3⟩ | h1)
    ·exact⟨y,by omega,h2,h3⟩
    ·exact⟨x,by omega,h,h1.symm⟩
   ·rintro⟨y,h1,h2,h3⟩
    rcases Nat.lt_or_ge y x with h4 | h4
    ·exact .inl ⟨y,h4,h2,h3⟩
    ·have:y=x:=by omega
     subst this;exact .inr h3.symm
  ·rw[usTo_no h,ih];constructor
   ·rintro⟨y,h1,h2,h3⟩;exact⟨y,by omega,h2,h3⟩
   ·rintro⟨y,h1,h2,h3⟩
    rcases Nat.lt_or_ge y x with h4 | h4
    ·exact⟨y,h4,h2,h3⟩
    ·have:y=x:=by omega
     subst this;exact absurd h2 h
theorem lI{t:Tb}{k:Int} : fD t k=true↔∃y,y<t.rows.length*t.attrs.length∧(bC t y).k=3∧(bC t y).n=k:=by
 unfold fD;simp[List.any_eq_true]
theorem usTo_all(t:Tb)(k:Int):ir (gl t (t.rows.length*t.attrs.length)) k=fD t k:=by
 rw[Bool.eq_iff_iff,pd,usTo_mem,lI]
def TbN(t:Tb):Prop:=∀y,y<t.rows.length*t.attrs.length→(bC t y).n≤1000000
theorem TbN.bnd{t:Tb}(h:TbN t):Bnd (fD t) 1000000:=fun k hk=>by
 obtain⟨y,h1,_,h3⟩:=lI.1 hk;have:=h y h1;omega
def fL:Int→V:=fun _=>.bool true
noncomputable def gK(u:Int→Bool)(c:Nat→Dm):Int→V:=fun k=>.agg [.int .i64 3,.int .i64 (cls u c k.toNat),.str ByteArray.empty]
@[simp ↓ high] theorem rb_BT (n:Nat) (kk:KK) (us:List Int):rbB n (.map kk (mF fL us))↔True:=rbB_mF (fun _ _=>by simp[fL]) n kk us
@[simp ↓ high] theorem rb_NM (n:Nat) (kk:KK) (u:Int→Bool) (c:Nat→Dm) (us:List Int):rbB n (.map kk (mF (gK u c) us))↔True:=rbB_mF (fun _ _=>by simp[gK]) n kk us
def toI(l:List Nat):List Int:=l.map fun(x:Nat)=>(x:Int)
theorem toI_snoc(l:List Nat)(x:Nat):toI (l++[x])=toI l++[(x:Int)]:=by simp[toI]
theorem toI_mem{l:List Nat}{x:Nat} : ir (toI l) (x:Int)=true↔x∈l:=by
 rw[pd];unfold toI;constructor
 ·intro h;obtain⟨y,hy,he⟩:=List.mem_map.1 h
  have:y=x:=by omega
  rw[←this];exact hy
 ·intro h;exact List.mem_map.2 ⟨x,h,rfl⟩
theorem toI_no{l:List Nat}{x:Nat}(h:¬x∈l):ir (toI l) (x:Int)=false:=by
 cases hb:ir (toI l) (x:Int)
 ·rfl
 ·exact absurd (toI_mem.1 hb) h
noncomputable def gk(u:Int→Bool)(c:Nat→Dm)(b a:Nat):List Vl:=(List.range a).map fun k=>fw u c (b+k)
theorem vlTo_succ(u:Int→Bool)(c:Nat→Dm)(b a:Nat):gk u c b (a+1)=gk u c b a++[fw u c (b+a)]:=by simp[gk,List.range_succ]
theorem lH(u:Int→Bool)(c:Nat→Dm)(b a:Nat):(gk u c b a).length=a:=by simp[gk]
noncomputable def ii(t:Tb)(c:Nat→Dm)(i:Nat):List Rw:=(List.range i).map (gG t c)
theorem rwTo_succ(t:Tb)(c:Nat→Dm)(i:Nat):ii t c (i+1)=ii t c i++[gG t c i]:=by simp[ii,List.range_succ]
theorem pG(t:Tb)(c:Nat→Dm)(i:Nat):(ii t c i).length=i:=by simp[ii]
theorem filRow_eq(t:Tb)(c:Nat→Dm)(i:Nat):gG t c i=⟨(cL t i).id,gk (fD t) c (i*t.attrs.length) t.attrs.length⟩:=rfl
def zeroT:V:=.agg [.str ByteArray.empty,.nilS,.nilS]
noncomputable def qf(t:Tb)(fds:List Fd)(l:List Cr):V:=if dO t fds l=0 then(if okB (aS t fds l) then .tup [aG false false (iR t fds l),.int .i64 0] else .tup [zeroT,.int .i64 15]) else .tup [zeroT,.int .i64 (dO t fds l)]
theorem fill_at{t:Tb}{fds:List Fd}{l:List Cr}(hv:TbV t)(hF:bU fds){H1:List B}(g:HOk H1 3 4 5 t.attrs.length (t.rows.length*t.attrs.length) (aS t fds l).K)(hht:Ht H1 4 (List.range (t.rows.length*t.attrs.length))=H1)(df:Bool):
  bA Tryz.prog 52 [.ptr 3 0,.int .i64 t.rows.length,LF df fds] H1 fun r' H'=>∃P G,r' = .bool (okB (aS t fds l))∧H'=Ht H1 4 P++G∧(okB (aS t fds l)=true→G=[]∧Fr (aS t fds l) P∧eT (aS t fds l) (rFn (aS t fds l) P)):=by
 have c:=fill_u (frt_init (aS t fds l)) (rfl:(aS t fds l).m*(aS t fds l).n=_) rfl g (ec hv) hv.attrs (by have:=hv.rows;show t.rows.length≤_;omega) df hF;rw[show List.range ((aS t fds l).m*(aS t fds l).n)=List.range (t.rows.length*t.attrs.length) from rfl,hht]at c
 exact c.mono fun r H ⟨a,b,d⟩=>⟨_,_,a,b,d⟩
theorem Fill_u(t:Tb)(ff gg df cf:Bool)(fds:List Fd)(l:List Cr)(ht:TbOk t)(hB:TbN t)(hF:bU fds)(hcl:l.length≤1000000):
  aR Tryz.prog 22 [aG ff gg t,LF df fds,LC cf l] fun r=>r=qf t fds l:=by
 have c1:=oh t ff gg df cf fds l ht hF hcl;simp only[aG,LS,LR,LC,LF]at c1;unfold qf;by_cases h:dO t fds l=0
 ·obtain⟨hv,h1,h2,h3,h4⟩:=kO ht h;rw[if_pos h];rw[h]at c1;obtain⟨b0,hb0⟩:∃b0,b0=B.cells [.str t.name,.lst 1 ff (t.attrs.map V.str),.lst 2 gg (t.rows.map aL)]:=⟨_,rfl⟩;obtain⟨b1,hb1⟩:∃b1,b1=B.cells [.str ByteArray.empty,.nilS,.nilS]:=⟨_,rfl⟩
  have hrb:∀bl∈[b0,b1],rbB 1 bl:=by rw[hb0,hb1];simp
  have hrb2:∀bl∈[b0,b1],rbB [b0,b1].length bl:=by rw[hb0,hb1];simp
  have cb:=begin2 t ff gg cf fds l hv h3 hcl b0 b1 hrb;have g:HOk (hY [b0,b1] ff gg t (aS t fds l).K) 3 4 5 t.attrs.length (t.rows.length*t.attrs.length) (aS t fds l).K:=begOk [b0,b1] ff gg t (aS t fds l).K hrb2;have hht:Ht (hY [b0,b1] ff gg t (aS t fds l).K) 4 (List.range (t.rows.length*t.attrs.length))=hY [b0,b1] ff gg t (aS t fds l).K:=begHt [b0,b1] ff gg t (aS t fds l).K;have cf2:=fill_at hv hF g hht df;obtain⟨n,hne⟩:∃n,n=t.attrs.length:=⟨_,rfl⟩;obtain⟨m,hme⟩:∃m,m=t.rows.length:=⟨_,rfl⟩;obtain⟨q,hq⟩:∃q,q=aS t fds l:=⟨_,rfl⟩;obtain⟨N,hNe⟩:∃N,N=m*n:=⟨_,rfl⟩;have hne':=hne.symm;have hme':=hme.symm;obtain⟨H1,hH1⟩:∃H1,H1=hY [b0,b1] ff gg t (aS t fds l).K:=⟨_,rfl⟩
  have hat:H1[0]?=some (B.cells [.str t.name,.lst 1 ff (t.attrs.map V.str),.lst 2 gg (t.rows.map aL)]):=by rw[hH1,hb0];rfl
  have hH2:∀P G,Ht H1 4 P++G=B.cells [.str t.name,.lst 1 ff (t.attrs.map V.str),.lst 2 gg (t.rows.map aL)]::B.cells [.str ByteArray.empty,.nilS,.nilS]::B.cells [.str t.name,.lst 1 ff (t.attrs.map V.str),.lst 2 gg (t.rows.map aL)]::B.cells [.int .i64 n,.buf 4 0 N N,.buf 5 0 N N]::B.buf 3 1 (paL P) false::B.buf 113 1 (knL q.K N) false::G:=fun P G=>by
   rw[hH1,hb0,hb1,hq,hNe,hme,hne];simp[Ht,hY,LS,LR]
  rw[←hH1]at cb cf2;rw[hb0,hb1]at cb;rw[←hq,hme']at cf2;rw[←hq];simp only[aG,LS,LR,LC]at cb;simp only[LF]at cf2;have cs:=clone_S t.attrs ff (by have:=ht.attrs;omega);simp only[LS]at cs
  cases hok:okB q with
  | false =>
   rw[hok]at cf2;rw[if_neg (by simp)];refine aC (aD tok Tryz.func22 rfl rfl ?_);refine wx ?_;simp -implicitDefEqProofs -dsimp[Tryz.f22,List.replicate,aG,LS,LR,LC,LF];refine(aF (c1) (by simp)).mono ?_;rintro r H' ⟨rfl,rfl⟩;simp -implicitDefEqProofs -dsimp[];refine eH cb ?_;rintro r' H' ⟨rfl,rfl⟩;simp -implicitDefEqProofs -dsimp[hat,hme'];refine eH cf2 ?_;rintro r' H' ⟨P,G,rfl,rfl,_⟩;rw[hH2];simp -implicitDefEqProofs -dsimp[];rfl
  | true =>
   rw[hok]at cf2;rw[if_pos rfl];have hm:=hv.rows;have hn:=hv.attrs;rw[hme']at hm;rw[hne']at hn;have hbig:m*n≤1000*16:=Nat.mul_le_mul hm hn
   have hN16:N≤16000:=by omega
   have hqm:q.m=m:=by rw[hq,hme];rfl
   have hqn:q.n=n:=by rw[hq,hne];rfl
   have hqN:q.m*q.n=N:=by rw[hqm,hqn,hNe]
   refine aC (aD tok Tryz.func22 rfl rfl ?_);refine wx ?_;simp -implicitDefEqProofs -dsimp[Tryz.f22,List.replicate,aG,LS,LR,LC,LF];refine(aF (c1) (by simp)).mono ?_;rintro r H' ⟨rfl,rfl⟩;simp -implicitDefEqProofs -dsimp[];refine eH cb ?_;rintro r' H' ⟨rfl,rfl⟩;simp -implicitDefEqProofs -dsimp[hat,hme'];refine eH cf2 ?_;rintro r' H' ⟨P,G,rfl,rfl,hh⟩;obtain⟨rfl,⟨hgt,f⟩,hcls⟩:=hh rfl;rw[hH2];obtain⟨r,hr⟩:∃r,r=rFn q P:=⟨_,rfl⟩;rw[←hr]at f hcls;obtain⟨c,hc⟩:∃c,c=eE q r:=⟨_,rfl⟩;have hgen:GenS q c:=hc▸f.gen hcls;have hfT:iR t fds l=ei t c:=jg (hq▸hgen);obtain⟨u,hu⟩:∃u,u=fD t:=⟨_,rfl⟩
   have hnum:∀k,0≤da u k∧da u k≤1000000+k:=fun k=>by rw[hu];exact oW hB.bnd (by omega) k
   simp -implicitDefEqProofs -dsimp[hme'];refine aK (W_loopM 67 [12,14,48,49,50,51,52,53,54,55,56,57,58,59,60,61,62,63,64,65,66] (by simp[mB]<;>rfl) (σ:=Nat) (fun i=>i≤m) (fun i=>m-i) (fun i=>[(48,.int .i64 i)]) (fun i=>[B.cells [.str t.name,.lst 1 ff (t.attrs.map V.str),.lst 2 gg (t.rows.map aL)],B.cells [.str ByteArray.empty,.nilS,.nilS],B.cells [.str t.name,.lst 1 ff (t.attrs.map V.str),.lst 2 gg (t.rows.map aL)],B.cells [.int .i64 n,.buf 4 0 N N,.buf 5 0 N N],B.buf 3 1 (paL P) false,B.buf 113 1 (knL q.K N) false,B.map (.int .i64) (mF fL (gl t (i*n)))]) 0 (by omega) (by simp) (by simp[gl,mF_nil]) (by simp) ?_);intro i hi N1 Q1 hN1 hQ1;by_cases hib:i<m
   ·skip
    have hit:i<t.rows.length:=by omega
    obtain⟨rw,hrw⟩:∃rw,rw=t.rows[i]:=⟨_,rfl⟩;have hrw':=hrw.symm
    have hvl:rw.vals.length=n:=by rw[hrw,hne];exact hv.len _ (List.getElem_mem hit)
    refine wx ?_;simp -implicitDefEqProofs -dsimp[hib,hme',hit,hrw',aL,LV,hvl];refine aK (W_loopM 66 [14,55,56,57,58,59,60,61,62,63,64,65] (by simp[mB]<;>rfl) (σ:=Nat×Nat) (fun p=>p.1≤n∧p.2=i*n+p.1) (fun p=>n-p.1) (fun p=>[(55,.int .i64 p.1)]) (fun p=>[B.cells [.str t.name,.lst 1 ff (t.attrs.map V.str),.lst 2 gg (t.rows.map aL)],B.cells [.str ByteArray.empty,.nilS,.nilS],B.cells [.str t.name,.lst 1 ff (t.attrs.map V.str),.lst 2 gg (t.rows.map aL)],B.cells [.int .i64 n,.buf 4 0 N N,.buf 5 0 N N],B.buf 3 1 (paL P) false,B.buf 113 1 (knL q.K N) false,B.map (.int .i64) (mF fL (gl t p.2)),B.cells [.int .i64 rw.id,.lst 3 false (rw.vals.map ap)]]) (0,i*n) ⟨by simp,by simp⟩ (by simp) (by simp) (by simp) ?_);rintro⟨a,x⟩ ⟨ha,hx⟩ N2 Q2 hN2 hQ2;simp only at ha hx hN2;by_cases hab:a<n
    ·have hva:a<rw.vals.length:=by omega
     obtain⟨v,hve⟩:∃v,v=rw.vals[a]:=⟨_,rfl⟩;have hve':=hve.symm
     have hvt:bC t x=v:=by
      rw[hx,hne,dr t (hne▸hab),av hit,←hrw,fC hva,hve]
     have hst:=fun h=>usTo_yes (t:=t) (x:=x) h
     have hst2:=fun h=>usTo_no (t:=t) (x:=x) h
     rw[hvt]at hst hst2;by_cases hk:v.k=3
     ·have hst:=hst hk
      cases hmem:ir (gl t x) v.n with
      | false =>
       rw[addK_no hmem]at hst;have hf:=lz (enc:=fL) (i:=0) hmem;have hsn:mF fL (gl t x++[v.n])=mF fL (gl t x)++[(V.int .i64 v.n,V.bool true)]:=mF_snoc _ _ _;refine wx ?_;simp -implicitDefEqProofs -dsimp[hab,hvl,hva,hve',ap,hk,hf,aJ a (by omega)];refine hN2 (a+1,x+1) _ _ ⟨by simp only;omega,by simp only;omega⟩ (by simp only;omega) (by simp) ⟨[B.cells [.int .i64 v.k,.int .i64 v.n,.str v.s]],by simp[hst,hsn,hk]⟩ (by simp) (by simp)
      | true =>
       rw[addK_yes hmem]at hst;obtain⟨j,hf,hj⟩:=iQ (enc:=fL) (i:=0) hmem;have hset:(mF fL (gl t x)).set j (V.int .i64 v.n,V.bool true)=mF fL (gl t x):=set_mF hj;rw[Nat.zero_add]at hf;refine wx ?_;simp -implicitDefEqProofs -dsimp[hab,hvl,hva,hve',ap,hk,hf,hset,aJ a (by omega)];refine hN2 (a+1,x+1) _ _ ⟨by simp only;omega,by simp only;omega⟩ (by simp only;omega) (by simp) ⟨[B.cells [.int .i64 v.k,.int .i64 v.n,.str v.s]],by simp[hst,hk]⟩ (by simp) (by simp)
     ·have hst:=hst2 hk;refine wx ?_;simp -implicitDefEqProofs -dsimp[hab,hvl,hva,hve',ap,hk,aJ a (by omega)];refine hN2 (a+1,x+1) _ _ ⟨by simp only;omega,by simp only;omega⟩ (by simp only;omega) (by simp) ⟨[B.cells [.int .i64 v.k,.int .i64 v.n,.str v.s]],by simp[hst]⟩ (by simp) (by simp)
    ·have hxe:(i+1)*n=x:=by rw[Nat.add_mul];omega
     refine wx ?_;simp -implicitDefEqProofs -dsimp[hab,hvl];refine hQ2 _ _ _ ?_;simp -implicitDefEqProofs -dsimp[aJ i (by omega)];refine hN1 (i+1) _ _ (by omega) (by omega) (by simp) ⟨[B.cells [.int .i64 rw.id,.lst 3 false (rw.vals.map ap)]],by simp[hxe]⟩ (by simp) (by simp)
   ·obtain rfl:i=m:=by omega
    have hus:∀k,ir (gl t (i*n)) k=u k:=fun k=>by rw[hme,hne,hu];exact usTo_all t k
    obtain⟨us,hus'⟩:∃us,us=gl t (i*n):=⟨_,rfl⟩;rw[←hus']at hus ⊢;have hu1:=hB.bnd;rw[←hu]at hu1;refine wx ?_;simp -implicitDefEqProofs -dsimp[hib,hme'];refine hQ1 _ _ _ ?_;simp -implicitDefEqProofs -dsimp[];refine aK (am tok mixed [6,7] [(0,[1]),(1,[1]),(2,[1]),(3,[1]),(4,[1]),(5,[1])] [(.lst 1 false (t.attrs.map V.str),[])] (by kernel_rfl) fun C K hC hK=>?_);simp -implicitDefEqProofs [];refine⟨⟨hC _ _ _ _ (aF cs (by simp)),hC _ _ _ _ (aF cs (by simp))⟩,hK _ _ ?_⟩;obtain⟨m,hmi⟩:∃m,m=i:=⟨_,rfl⟩;rw[←hmi]at hm hbig hqm hNe hme hme';clear hib hi hmi;simp -implicitDefEqProofs -dsimp[hme'];refine aK (co 66 2 [] 7 [2] rfl (et _ _) (by simp) (W_loopM 158 [16,18,19,20,21,22,23,24,77,78,79,80,81,82,83,84,85,86,87,88,89,90,91,92,93,94,95,96,97,98,99,100,101,102,103,104,105,106,107,108,109,110,111,112,113,114,115,116,117,118,119,120,121,122,123,124,125,126,127,128,129,130,131,132,133,134,135,136,137,138,139,140,141,142,143,144,145,146,147,148,149,150,151,152,153,154,155,156,157] (by simp[mB]<;>rfl) (σ:=Nat) (fun i=>i≤m) (fun i=>m-i) (fun i=>[(77,.int .i64 i),(16,.int .i64 (da u (bO c (i*n))))]) (fun i=>[B.cells [.str t.name,.lst 1 ff (t.attrs.map V.str),.lst 2 gg (t.rows.map aL)],B.cells [.str ByteArray.empty,.nilS,.nilS],B.cells [.str t.name,.lst 1 ff (t.attrs.map V.str),.lst 2 gg (t.rows.map aL)],B.cells [.int .i64 n,.buf 4 0 N N,.buf 5 0 N N],B.buf 3 1 (paL P) false,B.buf 113 1 (knL q.K N) false,B.map (.int .i64) (mF fL us),B.cells [.str t.name,.lst 1 false (t.attrs.map V.str),.buf 9 0 i i],B.map (.int .i64) (mF (gK u c) (toI (nmL c r (i*n)))),B.buf 66 2 ((ii t c i).map aL) false]) 0 (by omega) (by simp[bO,da]) (by simp[nmL_zero,toI,mF_nil,ii]) (by simp) ?_));intro i hi N3 Q3 hN3 hQ3;by_cases hib:i<m
    ·have hit:i<t.rows.length:=by omega
     obtain⟨rw,hrw⟩:∃rw,rw=t.rows[i]:=⟨_,rfl⟩;have hrw':=hrw.symm
     have hvl:rw.vals.length=n:=by rw[hrw,hne];exact hv.len _ (List.getElem_mem hit)
     refine wx ?_;simp -implicitDefEqProofs -dsimp[hib,hme',hit,hrw',aL,LV,hne'];refine aK (co 68 3 [] 11 [1] rfl (et _ _) (by simp) (W_loopM 151 [16,21,22,23,24,88,89,90,91,92,93,94,95,96,97,98,99,100,101,102,103,104,105,106,107,108,109,110,111,112,113,114,115,116,117,118,119,120,121,122,123,124,125,126,127,128,129,130,131,132,133,134,135,136,137,138,139,140,141,142,143,144,145,146,147,148,149,150] (by simp[mB]<;>rfl) (σ:=Nat×Nat) (fun p=>p.1≤n∧p.2=i*n+p.1) (fun p=>n-p.1) (fun p=>[(88,.int .i64 p.1),(16,.int .i64 (da u (bO c p.2)))]) (fun p=>[B.cells [.str t.name,.lst 1 ff (t.attrs.map V.str),.lst 2 gg (t.rows.map aL)],B.cells [.str ByteArray.empty,.nilS,.nilS],B.cells [.str t.name,.lst 1 ff (t.attrs.map V.str),.lst 2 gg (t.rows.map aL)],B.cells [.int .i64 n,.buf 4 0 N N,.buf 5 0 N N],B.buf 3 1 (paL P) false,B.buf 113 1 (knL q.K N) false,B.map (.int .i64) (mF fL us),B.cells [.str t.name,.lst 1 false (t.attrs.map V.str),.buf 9 0 i i],B.map (.int .i64) (mF (gK u c) (toI (nmL c r p.2))),B.buf 66 2 ((ii t c i).map aL) false,B.cells [.int .i64 rw.id,.lst 3 false (rw.vals.map ap)],B.cells [.int .i64 rw.id,.buf 12 0 p.1 p.1],B.buf 68 3 ((gk u c (i*n) p.1).map ap) false]) (0,i*n) ⟨by simp,by simp⟩ (by simp) (by simp[gk]) (by simp) ?_));rintro⟨a,x⟩ ⟨ha,hx⟩ N4 Q4 hN4 hQ4;simp only at ha hx hN4;by_cases hab:a<n
     ·have hlt:x<N:=by rw[hx,hNe];exact aq hib hab
      have hltq:x<q.m*q.n:=by rw[hqN];exact hlt
      have hrlt:r x<N:=by have:=f.lt x hltq;rw[hqN]at this;exact this
      have hkl:=lg q.K N
      have hkg:=fun h=>lh q.K (N:=N) (x:=r x) h
      have hvlen:=lH u c (i*n) a;have hvs:=vlTo_succ u c (i*n) a;rw[←hx]at hvs;have hrkl:=rank_le c x;obtain⟨nu1,nu2⟩:=hnum (bO c x);obtain⟨yi,hyi⟩:∃yi,yi=i*n:=⟨_,rfl⟩
      have w1:IntKind.i64.wrap ((i:Int)*n)=(yi:Int):=by rw[hyi,wrap64 (by rw[←Int.natCast_mul];omega) (by rw[←Int.natCast_mul];omega)];push_cast;rfl
      have w2:IntKind.i64.wrap ((yi:Int)+(a:Int))=(x:Int):=by rw[wrap64 (by omega) (by omega)];omega
      rw[←hyi]at hvlen hvs ⊢;obtain⟨vl,hvle⟩:∃vl,vl=gk u c yi a:=⟨_,rfl⟩;rw[←hvle]at hvlen hvs;rw[←hvle]
      cases hK:q.K (r x) with
      | some v =>
       skip
       have hcx:c x = .inl v:=by rw[hc];unfold eE;rw[hK]
       have hno:¬(bM (c x)∧fp c x=x):=fun h=>isSym_inl hcx h.1
       have hrk:=lQ hno;have hnm:=nmL_old (r:=r) hno;rw[er hcx]at hvs;rw[hK]at hkg;refine wx ?_;simp -implicitDefEqProofs -dsimp[hab,hne',w1,w2];refine eH (root_at f hqN (by omega) rfl rfl rfl (by simp) x hlt) ?_;rintro r' H' ⟨rfl,rfl⟩;simp -implicitDefEqProofs -dsimp[hkl,hrlt,hkg,fR,gT];refine aK (am tok mixed [12,14] [] [] (by kernel_rfl) fun C K hC hK=>?_);simp -implicitDefEqProofs [hkl,hrlt,hkg,fR,hvlen,md a (by omega)];refine hK _ _ ?_;simp -implicitDefEqProofs -dsimp[aJ a (by omega)];refine hN4 (a+1,x+1) _ _ ⟨by simp only;omega,by simp only;omega⟩ (by simp only;omega) (by simp[hrk]) ⟨[],by simp[hnm,←hyi,hvs,ap]⟩ (by simp) (by simp)
      | none =>
       have hsx:bM (c x):=by rw[hc];unfold eE;rw[hK];exact⟨r x,rfl⟩
       have hsx':bM (eE q r x):=by rw[←hc];exact hsx
       have hrr:r (r x)=r x:=f.self (r x) (by rw[hqN];exact hrlt) (f.root x hltq)
       have hcr:c (r x)=c x:=by rw[hc];unfold eE;rw[hrr]
       have hcls2:cls u c (r x)=cls u c x:=qR hcr;have hmem:=nmL_mem hsx';rw[←hc]at hmem;rw[fP hsx]at hvs;rw[hK]at hkg;by_cases hfp:fp c x=x
       ·have hno:¬r x∈nmL c r x:=fun hm=>hmem.1 hm hfp
        have hf:=lz (enc:=gK u c) (i:=0) (toI_no hno);have hrk:=lR hsx hfp;have hnm:=nmL_new (r:=r) hsx hfp;have hcl:=cls_new (u:=u) hfp;obtain⟨nx1,nx2⟩:=nA hu1 (da u (bO c x))
        have hnp:da u (bO c (x+1))=cls u c x:=by rw[hrk,hcl];rfl
        rw[←hcl]at nx1 nx2;obtain⟨n0,hn0⟩:∃n0,n0=da u (bO c x):=⟨_,rfl⟩;obtain⟨nx,hnx⟩:∃nx,nx=cls u c x:=⟨_,rfl⟩;rw[←hnx]at nx1 nx2 hnp hvs hcls2;rw[←hn0]at nx1 nx2 nu1 nu2
        have hsn:mF (gK u c) (toI (nmL c r x))++[(V.int .i64 (r x:Int),V.agg [.int .i64 3,.int .i64 nx,.str ByteArray.empty])]=mF (gK u c) (toI (nmL c r (x+1))):=by
         rw[hnm,toI_snoc,mF_snoc];simp[gK,hcls2]
        have hm2:ir (toI (nmL c r (x+1))) (r x:Int)=true:=toI_mem.2 (by rw[hnm];simp);obtain⟨j,hf2,_⟩:=iQ (enc:=gK u c) (i:=0) hm2;rw[Nat.zero_add]at hf2
        have henc:gK u c (r x:Int)=V.agg [.int .i64 3,.int .i64 nx,.str ByteArray.empty]:=by simp[gK,hcls2]
        rw[henc]at hf2;have hn0':=hn0.symm;refine wx ?_;simp -implicitDefEqProofs -dsimp[hab,hne',w1,w2];refine eH (root_at f hqN (by omega) rfl rfl rfl (by simp) x hlt) ?_;rintro r' H' ⟨rfl,rfl⟩;simp -implicitDefEqProofs -dsimp[hkl,hrlt,hkg,fR,gT,hf,hn0',wrap64 (n:=n0+1) (by omega) (by omega)];refine aK (W_loopM 138 [16,123,126,133,134,135,136,137] (by simp[mB]<;>rfl) (σ:=Int) (fun k=>n0<k∧k≤nx) (fun k=>(nx-k).toNat) (fun k=>[(16,.int .i64 k)]) (fun _=>[B.cells [.str t.name,.lst 1 ff (t.attrs.map V.str),.lst 2 gg (t.rows.map aL)],B.cells [.str ByteArray.empty,.nilS,.nilS],B.cells [.str t.name,.lst 1 ff (t.attrs.map V.str),.lst 2 gg (t.rows.map aL)],B.cells [.int .i64 n,.buf 4 0 N N,.buf 5 0 N N],B.buf 3 1 (paL P) false,B.buf 113 1 (knL q.K N) false,B.map (.int .i64) (mF fL us),B.cells [.str t.name,.lst 1 false (t.attrs.map V.str),.buf 9 0 i i],B.map (.int .i64) (mF (gK u c) (toI (nmL c r (x)))),B.buf 66 2 ((ii t c i).map aL) false,B.cells [.int .i64 rw.id,.lst 3 false (rw.vals.map ap)],B.cells [.int .i64 rw.id,.buf 12 0 a a],B.buf 68 3 (vl.map ap) false,B.cells [.int .i64 0,.int .i64 0,.str ByteArray.empty]]) (n0+1) ⟨by omega,by have:=nx1.gt;omega⟩ (by simp) (by simp) (by simp) ?_);rintro k ⟨hk1,hk2⟩ N5 Q5 hN5 hQ5;have huk:=hus k;by_cases hkx:k=nx
        ·subst hkx;rw[nx1.free]at huk;have hf3:=lz (enc:=fL) (i:=0) huk;refine wx ?_;simp -implicitDefEqProofs -dsimp[hf3];refine hQ5 _ _ _ ?_;simp -implicitDefEqProofs -dsimp[hf,hsn,hf2,hvlen,md a (by omega),aJ a (by omega)];refine hN4 (a+1,x+1) _ _ ⟨by simp only;omega,by simp only;omega⟩ (by simp only;omega) (by simp[hnp]) ⟨[B.cells [.int .i64 0,.int .i64 0,.str ByteArray.empty]],by simp[←hyi,hvs,ap]⟩ (by simp) (by simp)
        ·rw[nx1.all k hk1 (by omega)]at huk;obtain⟨j3,hf3,_⟩:=iQ (enc:=fL) (i:=0) huk;rw[Nat.zero_add,show fL k=V.bool true from rfl]at hf3;refine wx ?_;simp -implicitDefEqProofs -dsimp[hf3,wrap64 (n:=k+1) (by omega) (by omega)];refine hN5 (k+1) _ _ ⟨by omega,by omega⟩ (by omega) (by simp) ⟨[],by simp⟩ (by simp) (by simp)
       ·skip
        have hyes:r x∈nmL c r x:=hmem.2 hfp;obtain⟨j,hf,_⟩:=iQ (enc:=gK u c) (i:=0) (toI_mem.2 hyes);rw[Nat.zero_add]at hf
        have henc:gK u c (r x:Int)=V.agg [.int .i64 3,.int .i64 (cls u c x),.str ByteArray.empty]:=by simp[gK,hcls2]
        rw[henc]at hf
        have hno:¬(bM (c x)∧fp c x=x):=fun h=>hfp h.2
        have hrk:=lQ hno;have hnm:=nmL_old (r:=r) hno;refine wx ?_;simp -implicitDefEqProofs -dsimp[hab,hne',w1,w2];refine eH (root_at f hqN (by omega) rfl rfl rfl (by simp) x hlt) ?_;rintro r' H' ⟨rfl,rfl⟩;simp -implicitDefEqProofs -dsimp[hkl,hrlt,hkg,fR,gT,hf,hvlen,md a (by omega),aJ a (by omega)];refine hN4 (a+1,x+1) _ _ ⟨by simp only;omega,by simp only;omega⟩ (by simp only;omega) (by simp[hrk]) ⟨[B.cells [.int .i64 3,.int .i64 (cls u c x),.str ByteArray.empty]],by simp[hnm,←hyi,hvs,ap]⟩ (by simp) (by simp)
     ·obtain rfl:a=n:=by omega
      have hvlen:=lH u c (i*a) a
      have hxe:(i+1)*a=x:=by rw[Nat.add_mul];omega
      have hrl:=pG t c i;have hrs:=rwTo_succ t c i
      have hfr:aL (gG t c i)= .agg [.int .i64 rw.id,.lst 3 false ((gk u c (i*a) a).map ap)]:=by
       rw[filRow_eq,av hit,←hrw,←hne,←hu];rfl
      refine iA 12 [] 11 [1] rfl rfl (by simp) (by simp[hvlen]) ?_;refine wx ?_;simp -implicitDefEqProofs -dsimp[hab,hne'];refine hQ4 _ _ _ ?_;simp -implicitDefEqProofs -dsimp[hrl,md i (by omega),aJ i (by omega)];refine hN3 (i+1) _ _ (by omega) (by omega) (by simp[hxe]) ⟨[B.cells [.int .i64 rw.id,.lst 3 false (rw.vals.map ap)],B.cells [.int .i64 rw.id,.lst 3 false ((gk u c (i*a) a).map ap)],B.buf 68 3 ((gk u c (i*a) a).map ap) true],by simp[hxe,hrs,hfr]⟩ (by simp) (by simp)
    ·obtain rfl:i=m:=by omega
     have hrl:=pG t c i;refine iA 9 [] 7 [2] rfl rfl (by simp) (by simp[hrl]) ?_;refine wx ?_;simp -implicitDefEqProofs -dsimp[hib,hme'];refine hQ3 _ _ _ ?_;simp -implicitDefEqProofs -dsimp[];rw[hfT];simp[aG,LS,LR,ei,ii,hme]
 ·rw[if_neg h];refine aC (aD tok Tryz.func22 rfl rfl ?_);refine wx ?_;simp -implicitDefEqProofs -dsimp[Tryz.f22,List.replicate,aG,LS,LR,LC,LF];refine(aF (c1) (by simp)).mono ?_;rintro r H' ⟨rfl,rfl⟩;simp -implicitDefEqProofs -dsimp[h];rfl
section
theorem used_r(t:Tb)(ff gg:Bool)(k:Int)(hv:TbV t):aR Tryz.prog 55 [aG ff gg t,.int .i64 k] fun r=>r = .bool (fD t k):=by
 have hm:=hv.rows;have hn:=hv.attrs;obtain⟨E,hE⟩:∃E,E=fD t k:=⟨_,rfl⟩;rw[←hE];have hiff:=lI (t:=t) (k:=k);rw[←hE]at hiff;obtain⟨n,hne⟩:∃n,n=t.attrs.length:=⟨_,rfl⟩;obtain⟨m,hme⟩:∃m,m=t.rows.length:=⟨_,rfl⟩;have hne':=hne.symm;have hme':=hme.symm;rw[hne']at hn;rw[hme']at hm;rw[hne',hme']at hiff;refine aC (aD tok Tryz.func55 rfl rfl ?_);refine wx ?_;simp -implicitDefEqProofs -dsimp[Tryz.f55,List.replicate,aG,LS,LR];refine aK (W_loopM 40 [4,5,6,7,8,9,10,11,12,13,14,15,16,17,18,19,20,21,22,23,24,25,26,27,28,29,30,31,32,33,34,35,36,37,38,39] (by simp[mB]<;>rfl) (σ:=Nat) (fun i=>i≤m∧∀y,y<i*n→¬((bC t y).k=3∧(bC t y).n=k)) (fun i=>m-i) (fun i=>[(5,.int .i64 i)]) (fun _=>[B.cells [.str t.name,.lst 1 ff (t.attrs.map V.str),.lst 2 gg (t.rows.map aL)]]) 0 ⟨by omega,fun y hy=>by omega⟩ (by simp) rfl (by simp) ?_);rintro i ⟨hi,hall⟩ N1 Q1 hN1 hQ1;by_cases hib:i<m
 ·have hit:i<t.rows.length:=by omega
  obtain⟨rw,hrw⟩:∃rw,rw=t.rows[i]:=⟨_,rfl⟩;have hrw':=hrw.symm
  have hvl:rw.vals.length=n:=by rw[hrw,hne];exact hv.len _ (List.getElem_mem hit)
  refine wx ?_;simp -implicitDefEqProofs -dsimp[hib,hme'];refine aK (W_loopM 40 [4,6,7,15,16,17,18,19,20,21,22,23,24,25,26,27,28,29,30,31,32,33,34,35,36,37,38,39] (by simp[mB]<;>rfl) (σ:=Nat×Nat) (fun p=>p.1≤n∧p.2=i*n+p.1∧∀y,y<p.2→¬((bC t y).k=3∧(bC t y).n=k)) (fun p=>n-p.1) (fun p=>[(6,.int .i64 p.1)]) (fun _=>[B.cells [.str t.name,.lst 1 ff (t.attrs.map V.str),.lst 2 gg (t.rows.map aL)]]) (0,i*n) ⟨by simp,by simp,hall⟩ (by simp) (by simp) (by simp) ?_);rintro⟨a,x⟩ ⟨ha,hx,hall2⟩ N2 Q2 hN2 hQ2;simp only at ha hx hN2 hall2;by_cases hab:a<n
  ·have hva:a<rw.vals.length:=by omega
   obtain⟨v,hve⟩:∃v,v=rw.vals[a]:=⟨_,rfl⟩;have hve':=hve.symm
   have hvt:bC t x=v:=by
    rw[hx,hne,dr t (hne▸hab),av hit,←hrw,fC hva,hve]
   have hstep:¬(v.k=3∧v.n=k)→∀y,y<x+1→¬((bC t y).k=3∧(bC t y).n=k):=fun h y hy=>by
    rcases Nat.lt_or_ge y x with e | e
    ·exact hall2 y e
    ·have:y=x:=by omega
     subst this;rw[hvt];exact h
   by_cases hk:v.k=3
   ·by_cases hkn:v.n=k
    ·have hyes:E=true:=hiff.2 ⟨x,by rw[hx];exact aq hib hab,by rw[hvt];exact hk,by rw[hvt];exact hkn⟩;refine wx ?_;simp -implicitDefEqProofs -dsimp[hab,hne',hme',hib,hit,hrw',aL,LV,hva,hve',ap,hk,hkn];refine hQ2 _ _ _ ?_;simp -implicitDefEqProofs -dsimp[];refine hQ1 _ _ _ ?_;simp -implicitDefEqProofs -dsimp[];exact hyes
    ·have hst:=hstep (fun h=>hkn h.2);refine wx ?_;simp -implicitDefEqProofs -dsimp[hab,hne',hme',hib,hit,hrw',aL,LV,hva,hve',ap,hk,hkn,aJ a (by omega)];refine hN2 (a+1,x+1) _ _ ⟨by simp only;omega,by simp only;omega,hst⟩ (by simp only;omega) (by simp) ⟨[B.cells [.int .i64 v.k,.int .i64 v.n,.str v.s]],by simp[hk]⟩ (by simp) (by simp)
   ·have hst:=hstep (fun h=>hk h.1);refine wx ?_;simp -implicitDefEqProofs -dsimp[hab,hne',hme',hib,hit,hrw',aL,LV,hva,hve',ap,hk,aJ a (by omega)];refine hN2 (a+1,x+1) _ _ ⟨by simp only;omega,by simp only;omega,hst⟩ (by simp only;omega) (by simp) ⟨[B.cells [.int .i64 v.k,.int .i64 v.n,.str v.s]],by simp⟩ (by simp) (by simp)
  ·have hxe:(i+1)*n=x:=by rw[Nat.add_mul];omega
   refine wx ?_;simp -implicitDefEqProofs -dsimp[hab,hne'];refine hQ2 _ _ _ ?_;simp -implicitDefEqProofs -dsimp[aJ i (by omega)];refine hN1 (i+1) _ _ ⟨by omega,by rw[hxe];exact hall2⟩ (by omega) (by simp) ⟨[],by simp⟩ (by simp) (by simp)
 ·obtain rfl:i=m:=by omega
  have hno:E=false:=by
   cases hEb:E with
   | false=>rfl
   | true =>
    obtain⟨y,h1,h2,h3⟩:=hiff.1 hEb;exact absurd ⟨h2,h3⟩ (hall y h1)
  refine wx ?_;simp -implicitDefEqProofs -dsimp[hib,hme'];refine hQ1 _ _ _ ?_;simp -implicitDefEqProofs -dsimp[];exact hno
def bT(t u:Tb)(x:Nat):List Cr:=((List.range x).filter fun y=>!(fI (bC t y) (bC u y)== 0)).map (bP t)
theorem qK(t u:Tb):bT t u 0=[]:=rfl
theorem difTo_same{t u:Tb}{x:Nat}(h:fI (bC t x) (bC u x)=0):bT t u (x+1)=bT t u x:=by
 unfold bT;rw[List.range_succ,List.filter_append];simp[h]
theorem difTo_new{t u:Tb}{x:Nat}(h:fI (bC t x) (bC u x)≠0):bT t u (x+1)=bT t u x++[bP t x]:=by
 unfold bT;rw[List.range_succ,List.filter_append];simp[h]
theorem nL(t u:Tb)(x:Nat):(bT t u x).length≤x:=by
 unfold bT;rw[List.length_map];exact Nat.le_trans (List.length_filter_le _ _) (by simp)
theorem nw(t u:Tb)(f g f2 g2:Bool)(hv:TbV t)(ha:u.attrs.length=t.attrs.length)(hr:u.rows.length=t.rows.length)(hul:∀r∈u.rows,r.vals.length=t.attrs.length):
  aR Tryz.prog 58 [aG f g t,aG f2 g2 u] fun r=>r=LC false (bT t u (t.rows.length*t.attrs.length)):=by
 have hm:=hv.rows;have hn:=hv.attrs;obtain⟨n,hne⟩:∃n,n=t.attrs.length:=⟨_,rfl⟩;obtain⟨m,hme⟩:∃m,m=t.rows.length:=⟨_,rfl⟩;have hne':=hne.symm;have hme':=hme.symm;rw[hne']at hn;rw[hme']at hm;rw[hne',hme'];refine aC (aD tok Tryz.func58 rfl rfl ?_);refine wx ?_;simp -implicitDefEqProofs -dsimp[Tryz.f58,List.replicate,aG,LS,LR,hme'];refine aK (eY 49 2 [5] (by simp) (W_loopM 47 [5,6,7,8,9,13,14,15,16,17,18,19,20,21,22,23,24,25,26,27,28,29,30,31,32,33,34,35,36,37,38,39,40,41,42,43,44,45,46] (by simp[mB]<;>rfl) (σ:=Nat×Nat) (fun p=>p.1≤m∧p.2=p.1*n) (fun p=>m-p.1) (fun p=>[(13,.int .i64 p.1),(5,.buf 2 0 (bT t u p.2).length (bT t u p.2).length)]) (fun p=>[B.cells [.str t.name,.lst 1 f (t.attrs.map V.str),.lst 2 g (t.rows.map aL)],B.cells [.str u.name,.lst 1 f2 (u.attrs.map V.str),.lst 2 g2 (u.rows.map aL)],B.buf 49 2 ((bT t u p.2).map aN) false]) (0,0) ⟨by simp,by simp⟩ (by simp[qK]) (by simp[qK]) (by simp) ?_));rintro⟨i,c⟩ ⟨hi,hc⟩ N1 Q1 hN1 hQ1;simp only at hi hc hN1;by_cases hib:i<m
 ·have hit:i<t.rows.length:=by omega
  have hiu:i<u.rows.length:=by omega
  obtain⟨rw,hrw⟩:∃rw,rw=t.rows[i]:=⟨_,rfl⟩;obtain⟨ru,hru⟩:∃ru,ru=u.rows[i]:=⟨_,rfl⟩;have hrw':=hrw.symm;have hru':=hru.symm
  have hvl:rw.vals.length=n:=by rw[hrw,hne];exact hv.len _ (List.getElem_mem hit)
  have hvu:ru.vals.length=n:=by rw[hru,hne];exact hul _ (List.getElem_mem hiu)
  refine wx ?_;simp -implicitDefEqProofs -dsimp[hib,hme',hit,hrw',aL,LV,hvl];refine aK (W_loopM 46 [5,8,9,21,22,23,24,25,26,27,28,29,30,31,32,33,34,35,36,37,38,39,40,41,42,43,44,45] (by simp[mB]<;>rfl) (σ:=Nat×Nat) (fun p=>p.1≤n∧p.2=i*n+p.1) (fun p=>n-p.1) (fun p=>[(21,.int .i64 p.1),(5,.buf 2 0 (bT t u p.2).length (bT t u p.2).length)]) (fun p=>[B.cells [.str t.name,.lst 1 f (t.attrs.map V.str),.lst 2 g (t.rows.map aL)],B.cells [.str u.name,.lst 1 f2 (u.attrs.map V.str),.lst 2 g2 (u.rows.map aL)],B.buf 49 2 ((bT t u p.2).map aN) false,B.cells [.int .i64 rw.id,.lst 3 false (rw.vals.map ap)]]) (0,c) ⟨by simp,by simp[hc]⟩ (by simp) (by simp) (by simp) ?_);rintro⟨a,x⟩ ⟨ha2,hx⟩ N2 Q2 hN2 hQ2;simp only at ha2 hx hN2;by_cases hab:a<n
  ·have hlt:=aq hib hab;have hbig:m*n≤1000*16:=Nat.mul_le_mul hm hn
   have hva:a<rw.vals.length:=by omega
   have hva2:a<ru.vals.length:=by omega
   obtain⟨v,hve⟩:∃v,v=rw.vals[a]:=⟨_,rfl⟩;obtain⟨w,hwe⟩:∃w,w=ru.vals[a]:=⟨_,rfl⟩;have hve':=hve.symm;have hwe':=hwe.symm
   have hvt:bC t x=v:=by
    rw[hx,hne,dr t (hne▸hab),av hit,←hrw,fC hva,hve]
   have hvu2:bC u x=w:=by
    rw[hx,hne,←ha,dr u (by omega),av hiu,←hru,fC hva2,hwe]
   have hat:bP t x=⟨rw.id,(a:Int)⟩:=by
    rw[hx,hne,fS t (hne▸hab),av hit,←hrw]
   have hdl:=nL t u x;have c1:=ia v w;simp only[ap]at c1;by_cases hq:fI v w=0
   ·have hst:=difTo_same (t:=t) (u:=u) (x:=x) (by rw[hvt,hvu2];exact hq);refine wx ?_;simp -implicitDefEqProofs -dsimp[hab,hvl,hva,hve',ap,hiu,hru',aL,LV,hva2,hwe'];refine .inr ⟨aI (by kernel_rfl),?_⟩;refine ae _ (aF (c1) (by simp)) ?_;simp -implicitDefEqProofs -dsimp[hq,aJ a (by omega)];refine hN2 (a+1,x+1) _ _ ⟨by simp only;omega,by simp only;omega⟩ (by simp only;omega) (by simp[hst]) ⟨[B.cells [.int .i64 v.k,.int .i64 v.n,.str v.s]],by simp[hst]⟩ (by simp) (by simp)
   ·have hst:=difTo_new (t:=t) (u:=u) (x:=x) (by rw[hvt,hvu2];exact hq);rw[hat]at hst;refine wx ?_;simp -implicitDefEqProofs -dsimp[hab,hvl,hva,hve',ap,hiu,hru',aL,LV,hva2,hwe'];refine .inr ⟨aI (by kernel_rfl),?_⟩;refine ae _ (aF (c1) (by simp)) ?_;simp -implicitDefEqProofs -dsimp[hq,oA (bT t u x).length (by omega),aJ a (by omega)];refine hN2 (a+1,x+1) _ _ ⟨by simp only;omega,by simp only;omega⟩ (by simp only;omega) (by simp[hst]) ⟨[B.cells [.int .i64 v.k,.int .i64 v.n,.str v.s]],by simp[hst,aN]⟩ (by simp) (by simp)
  ·obtain rfl:a=n:=by omega
   refine wx ?_;simp -implicitDefEqProofs -dsimp[hab,hvl];refine hQ2 _ _ _ ?_;simp -implicitDefEqProofs -dsimp[aJ i (by omega)];refine hN1 (i+1,x) _ _ ⟨by simp only;omega,by simp only;rw[hx,Nat.add_mul];omega⟩ (by simp only;omega) (by simp) ⟨[B.cells [.int .i64 rw.id,.lst 3 false (rw.vals.map ap)]],by simp⟩ (by simp) (by simp)
 ·obtain rfl:i=m:=by omega
  refine wx ?_;simp -implicitDefEqProofs -dsimp[hib,hme'];refine hQ1 _ _ _ ?_;simp -implicitDefEqProofs -dsimp[];rw[←hc];exact dK rfl (by simp) (by simp)
theorem iS(t:Tb)(c:Nat→Dm):(ei t c).rows.length=t.rows.length:=by simp[ei]
theorem qE(t:Tb)(c:Nat→Dm):∀r∈(ei t c).rows,r.vals.length=t.attrs.length:=by
 intro r hr;obtain⟨i,_,rfl⟩:=List.mem_map.1 hr;simp[gG]
noncomputable def ApplyR(t:Tb)(fds:List Fd)(l:List Cr):V:=if dO t fds l=0 then(if okB (aS t fds l) then .tup [.int .i64 (bT t (iR t fds l) (t.rows.length*t.attrs.length)).length,.int .i64 0] else .tup [.int .i64 0,.int .i64 15]) else .tup [.int .i64 0,.int .i64 (dO t fds l)]
theorem Apply_u(t:Tb)(ff gg df cf:Bool)(fds:List Fd)(l:List Cr)(ht:TbOk t)(hB:TbN t)(hF:bU fds)(hcl:l.length≤1000000):
  aR Tryz.prog 24 [aG ff gg t,LF df fds,LC cf l] fun r=>r=ApplyR t fds l:=by
 have c1:=Fill_u t ff gg df cf fds l ht hB hF hcl;unfold qf at c1;unfold ApplyR;by_cases h:dO t fds l=0
 ·obtain⟨hv,_⟩:=kO ht h;rw[if_pos h]at c1 ⊢
  cases hok:okB (aS t fds l) with
  | true =>
   rw[hok,if_pos rfl]at c1;rw[if_pos rfl];have c2:=nw t (iR t fds l) ff gg false false hv rfl (iS _ _) (qE _ _);have hdl:=nL t (iR t fds l) (t.rows.length*t.attrs.length);have hsm:=ec hv;obtain⟨D,hD⟩:∃D,D=bT t (iR t fds l) (t.rows.length*t.attrs.length):=⟨_,rfl⟩;rw[←hD]at c2 hdl ⊢;obtain⟨T2,hT2⟩:∃T2,T2=iR t fds l:=⟨_,rfl⟩;rw[←hT2]at c1 c2;simp only[aG,LS,LR,LC,LF]at c1 c2;refine aC (aD tok Tryz.func24 rfl rfl ?_);refine wx ?_;simp -implicitDefEqProofs -dsimp[Tryz.f24,List.replicate,aG,LS,LR,LC,LF];refine(aF (c1) (by simp)).mono ?_;rintro r H' ⟨rfl,rfl⟩;simp -implicitDefEqProofs -dsimp[];refine(aF (c2) (by simp)).mono ?_;rintro r H' ⟨rfl,rfl⟩;simp -implicitDefEqProofs -dsimp[]
  | false =>
   rw[hok,if_neg (by simp)]at c1;rw[if_neg (by simp)];simp only[aG,LS,LR,LC,LF,zeroT]at c1;refine aC (aD tok Tryz.func24 rfl rfl ?_);refine wx ?_;simp -implicitDefEqProofs -dsimp[Tryz.f24,List.replicate,aG,LS,LR,LC,LF];refine(aF (c1) (by simp)).mono ?_;rintro r H' ⟨rfl,rfl⟩;simp -implicitDefEqProofs -dsimp[]
 ·rw[if_neg h]at c1 ⊢;simp only[aG,LS,LR,LC,LF,zeroT]at c1;refine aC (aD tok Tryz.func24 rfl rfl ?_);refine wx ?_;simp -implicitDefEqProofs -dsimp[Tryz.f24,List.replicate,aG,LS,LR,LC,LF];refine(aF (c1) (by simp)).mono ?_;rintro r H' ⟨rfl,rfl⟩;simp -implicitDefEqProofs -dsimp[h]
def SatP(u:Tb)(fds:List Fd):Prop:=∀d∈fds,∀i k,i<u.rows.length→k<i→cR (cL u i) (cL u k) d.l=true→cR (cL u i) (cL u k) d.r=true
open Classical in
noncomputable def satB(u:Tb)(fds:List Fd):Bool:=decide (SatP u fds)
theorem lN{u:Tb}{fds:List Fd} : satB u fds=true↔SatP u fds:=by unfold satB;simp
theorem satisfies_r(u:Tb)(f g df:Bool)(fds:List Fd)(hr:u.rows.length≤1000)(hul:∀r∈u.rows,r.vals.length≤31∧∀v∈r.vals,v.s.size≤maxLen)(hF:fds.length≤1000000):
  aR Tryz.prog 27 [aG f g u,LF df fds] fun r=>r = .bool (satB u fds):=by
 obtain⟨E,hE⟩:∃E,E=satB u fds:=⟨_,rfl⟩;rw[←hE];obtain⟨m,hme⟩:∃m,m=u.rows.length:=⟨_,rfl⟩;have hme':=hme.symm;rw[hme']at hr
 have hyes:SatP u fds→E=true:=fun h=>by rw[hE];exact lN.2 h
 have hno:¬SatP u fds→E=false:=fun h=>by
  rw[hE];cases hb:satB u fds
  ·rfl
  ·exact absurd (lN.1 hb) h
 refine aC (aD tok Tryz.func27 rfl rfl ?_);refine wx ?_;simp -implicitDefEqProofs -dsimp[Tryz.f27,List.replicate,aG,LS,LR,LF];refine aK (W_loopM 61 [4,5,6,7,8,9,10,11,12,13,14,15,16,17,18,19,20,21,22,23,24,25,26,27,28,29,30,31,32,33,34,35,36,37,38,39,40,41,42,43,44,45,46,47,48,49,50,51,52,53,54,55,56,57,58,59,60] (by simp[mB]<;>rfl) (σ:=Nat) (fun j=>j≤fds.length∧∀d∈fds.take j,∀i k,i<m→k<i→cR (cL u i) (cL u k) d.l=true→cR (cL u i) (cL u k) d.r=true) (fun j=>fds.length-j) (fun j=>[(5,.int .i64 j)]) (fun _=>[B.cells [.str u.name,.lst 1 f (u.attrs.map V.str),.lst 2 g (u.rows.map aL)]]) 0 ⟨by omega,by simp⟩ (by simp) rfl (by simp) ?_);rintro j ⟨hj,hx⟩ N1 Q1 hN1 hQ1;by_cases hjb:j<fds.length
 ·obtain⟨d,hd⟩:∃d,d=fds[j]:=⟨_,rfl⟩;have hd':=hd.symm;have hdm:d∈fds:=hd▸List.getElem_mem hjb;refine wx ?_;simp -implicitDefEqProofs -dsimp[hjb];refine aK (W_loopM 61 [4,6,7,14,15,16,17,18,19,20,21,22,23,24,25,26,27,28,29,30,31,32,33,34,35,36,37,38,39,40,41,42,43,44,45,46,47,48,49,50,51,52,53,54,55,56,57,58,59,60] (by simp[mB]<;>rfl) (σ:=Nat) (fun i=>i≤m∧∀i' k,i'<i→k<i'→cR (cL u i') (cL u k) d.l=true→cR (cL u i') (cL u k) d.r=true) (fun i=>m-i) (fun i=>[(6,.int .i64 i)]) (fun _=>[B.cells [.str u.name,.lst 1 f (u.attrs.map V.str),.lst 2 g (u.rows.map aL)]]) 0 ⟨by omega,fun i' k h=>by omega⟩ (by simp) (by simp) (by simp) ?_);rintro i ⟨hi,hx2⟩ N2 Q2 hN2 hQ2;by_cases hib:i<m
  ·have hit:i<u.rows.length:=by omega
   have ri:=av hit;refine wx ?_;simp -implicitDefEqProofs -dsimp[hib,hme'];refine aK (W_loopM 61 [4,7,21,22,23,24,25,26,27,28,29,30,31,32,33,34,35,36,37,38,39,40,41,42,43,44,45,46,47,48,49,50,51,52,53,54,55,56,57,58,59,60] (by simp[mB]<;>rfl) (σ:=Nat) (fun k=>k≤i∧∀k',k'<k→cR (cL u i) (cL u k') d.l=true→cR (cL u i) (cL u k') d.r=true) (fun k=>i-k) (fun k=>[(7,.int .i64 k)]) (fun _=>[B.cells [.str u.name,.lst 1 f (u.attrs.map V.str),.lst 2 g (u.rows.map aL)]]) 0 ⟨by omega,fun k h=>by omega⟩ (by simp) (by simp) (by simp) ?_);rintro k ⟨hk,hx3⟩ N3 Q3 hN3 hQ3;by_cases hkb:k<i
   ·have hkt:k<u.rows.length:=by omega
    have rk:=av hkt;obtain⟨l1,l2⟩:=hul u.rows[i] (List.getElem_mem hit);obtain⟨l3,l4⟩:=hul u.rows[k] (List.getElem_mem hkt);have c1:=agree03 u.rows[i] u.rows[k] (d.l:Int) l1 l3 l2;have c2:=agree03 u.rows[i] u.rows[k] (d.r:Int) l1 l3 l2
    have hstep:∀x y,cL u i=x→cL u k=y→(cR x y d.l=true→cR x y d.r=true)→∀k',k'<k+1→cR (cL u i) (cL u k') d.l=true→cR (cL u i) (cL u k') d.r=true:=fun x y e1 e2 h k' hk'=>by
     rcases Nat.lt_or_ge k' k with e | e
     ·exact hx3 k' e
     ·have:k'=k:=by omega
      subst this;rw[e1,e2];exact h
    have hbad:cR (cL u i) (cL u k) d.l=true→cR (cL u i) (cL u k) d.r=false→E=false:=fun h1 h2=>hno fun h=>by
     have:=h d hdm i k hit hkb h1;rw[h2]at this;cases this
    rw[ri,rk]at hbad;obtain⟨x,hxe⟩:∃x,x=u.rows[i]:=⟨_,rfl⟩;obtain⟨y,hye⟩:∃y,y=u.rows[k]:=⟨_,rfl⟩;rw[←hxe,←hye]at c1 c2 hbad;rw[←hxe]at ri;rw[←hye]at rk;have hxe':=hxe.symm;have hye':=hye.symm;simp only[aL,LV]at c1 c2
    cases q1:cR x y d.l with
    | false =>
     rw[q1]at c1;have hst:=hstep x y ri rk (fun h=>by rw[q1]at h;cases h);refine wx ?_;simp -implicitDefEqProofs -dsimp[hkb,hjb,hd',hit,hkt,hxe',hye',aL,LV,cT];refine .inr ⟨aI (by kernel_rfl),?_⟩;refine ae _ (aF (c1) (by simp)) ?_;simp -implicitDefEqProofs -dsimp[aJ k (by omega)];refine hN3 (k+1) _ _ ⟨by omega,hst⟩ (by omega) (by simp) ⟨[],by simp⟩ (by simp) (by simp)
    | true =>
     rw[q1]at c1
     cases q2:cR x y d.r with
     | true =>
      rw[q2]at c2;have hst:=hstep x y ri rk (fun _=>q2);refine wx ?_;simp -implicitDefEqProofs -dsimp[hkb,hjb,hd',hit,hkt,hxe',hye',aL,LV,cT];refine .inr ⟨aI (by kernel_rfl),?_⟩;refine ae _ (aF (c1) (by simp)) ?_;simp -implicitDefEqProofs -dsimp[hjb,hd',hit,hkt,hxe',hye',aL,LV,cT];refine ae _ (aF (c2) (by simp)) ?_;simp -implicitDefEqProofs -dsimp[aJ k (by omega)];refine hN3 (k+1) _ _ ⟨by omega,hst⟩ (by omega) (by simp) ⟨[],by simp⟩ (by simp) (by simp)
     | false =>
      rw[q2]at c2;have hb:=hbad q1 q2;refine wx ?_;simp -implicitDefEqProofs -dsimp[hkb,hjb,hd',hit,hkt,hxe',hye',aL,LV,cT];refine .inr ⟨aI (by kernel_rfl),?_⟩;refine ae _ (aF (c1) (by simp)) ?_;simp -implicitDefEqProofs -dsimp[hjb,hd',hit,hkt,hxe',hye',aL,LV,cT];refine ae _ (aF (c2) (by simp)) ?_;simp -implicitDefEqProofs -dsimp[];refine hQ3 _ _ _ ?_;simp -implicitDefEqProofs -dsimp[];refine hQ2 _ _ _ ?_;simp -implicitDefEqProofs -dsimp[];refine hQ1 _ _ _ ?_;simp -implicitDefEqProofs -dsimp[];exact hb
   ·obtain rfl:k=i:=by omega
    refine wx ?_;simp -implicitDefEqProofs -dsimp[hkb];refine hQ3 _ _ _ ?_;simp -implicitDefEqProofs -dsimp[aJ k (by omega)];refine hN2 (k+1) _ _ ⟨by omega,fun i' k' h1 h2=>?_⟩ (by omega) (by simp) ⟨[],by simp⟩ (by simp) (by simp)
    rcases Nat.lt_or_ge i' k with e | e
    ·exact hx2 i' k' e h2
    ·have:i'=k:=by omega
     subst this;exact hx3 k' h2
  ·obtain rfl:i=m:=by omega
   refine wx ?_;simp -implicitDefEqProofs -dsimp[hib,hme'];refine hQ2 _ _ _ ?_;simp -implicitDefEqProofs -dsimp[aJ j (by omega)];refine hN1 (j+1) _ _ ⟨by omega,fun d' hd'=>?_⟩ (by omega) (by simp) ⟨[],by simp⟩ (by simp) (by simp);rw[List.take_succ_eq_append_getElem hjb]at hd'
   rcases List.mem_append.1 hd' with e | e
   ·exact hx d' e
   ·simp only[List.mem_singleton]at e;rw[e,←hd];exact hx2
 ·obtain rfl:j=fds.length:=by omega
  rw[List.take_length]at hx;refine wx ?_;simp -implicitDefEqProofs -dsimp[hjb];refine hQ1 _ _ _ ?_;simp -implicitDefEqProofs -dsimp[];exact hyes (by rw[SatP,←hme];exact hx)
end
section
theorem sol_map{q:Prob}{c:Nat→Dm}(h:Sol q c)(f:Dm→Dm)(hi:∀x y,x<q.m*q.n→y<q.m*q.n→f (c x)=f (c y)→c x=c y)(hf:∀x v,x<q.m*q.n→q.K x=some v→f (.inl v)= .inl v):Sol q (fun x=>f (c x)):=
 ⟨fun x v hx hk=>by
  show f (c x)=_
  rw[h.fix x v hx hk];exact hf x v hx hk,fun d hd i k hi' hk hl a ha hb=>congrArg f (h.dep d hd i k hi' hk (fun b hb1 hb2=>hi _ _ (aq hi' hb1) (aq (by omega) hb1) (hl b hb1 hb2)) a ha hb)⟩
theorem fresh(c:Nat→Dm):∀N:Nat,∃S,∀y s,y<N→c y = .inr s→s<S
 | 0=>⟨0,fun y s h=>by omega⟩
 | N+1=>by
  obtain⟨S,hS⟩:=fresh c N
  cases hc:c N with
  | inl v=>exact⟨S,fun y s hy h=>by
    rcases Nat.lt_or_ge y N with e | e
    ·exact hS y s e h
    ·have:y=N:=by omega
     subst this;rw[hc]at h;cases h⟩
  | inr s0=>exact⟨max S (s0+1),fun y s hy h=>by
    rcases Nat.lt_or_ge y N with e | e
    ·have:=hS y s e h;omega
    ·have:y=N:=by omega
     subst this;rw[hc]at h
     have:=Sum.inr.inj h;omega⟩
theorem GenS.val_in{q:Prob}{c:Nat→Dm}(h:GenS q c){x:Nat}{v:Vl}(hx:x<q.m*q.n)(hv:c x = .inl v):∃y,y<q.m*q.n∧q.K y=some v:=by
 refine Classical.byContradiction fun hno=>?_
 obtain⟨S,hS⟩:=fresh c (q.m*q.n)
 have hfr:∀y,y<q.m*q.n→c y≠.inr S:=fun y hy he=>by have:=hS y S hy he;omega
 obtain⟨f,f1,f2⟩:∃f:Dm→Dm,f (.inl v)= .inr S∧∀d,d≠.inl v→f d=d:=by
  refine⟨fun d=>open Classical in if d = .inl v then .inr S else d,if_pos rfl,fun d hd=>if_neg hd⟩
 have hs:=sol_map h.sol f (fun a b ha hb he=>by
  by_cases h1:c a = .inl v
  ·by_cases h2:c b = .inl v
   ·rw[h1,h2]
   ·rw[h1,f1,f2 _ h2]at he;exact absurd he.symm (hfr b hb)
  ·by_cases h2:c b = .inl v
   ·rw[h2,f1,f2 _ h1]at he;exact absurd he (hfr a ha)
   ·rwa [f2 _ h1,f2 _ h2]at he) (fun a w ha hk=>f2 _ (fun he=>hno ⟨a,ha,by rw[hk,Sum.inl.inj he]⟩))
 obtain⟨τ,ht⟩:=h.gen _ hs;have:=ht x hx;simp only[hv,f1,app]at this;cases this
theorem numP_lt{u:Int→Bool}{b:Int}(hu:Bnd u b){j k:Nat}(h:j<k):da u j<da u k:=by
 induction k with
 | zero=>omega
 | succ k ih =>
  have h1:=(nA hu (da u k)).1.gt
  rcases Nat.lt_or_ge j k with e | e
  ·have:=ih e;rw[da];omega
  ·have:j=k:=by omega
   subst this;rw[da];omega
theorem rank_mono(c:Nat→Dm){a b:Nat}(h:a≤b):bO c a≤bO c b:=by
 induction b with
 | zero =>
  have:a=0:=by omega
  subst this;exact Nat.le_refl _
 | succ b ih =>
  rcases Nat.lt_or_ge a (b+1) with e | e
  ·have:=ih (by omega);by_cases hs:bM (c b)∧fp c b=b
   ·rw[lR hs.1 hs.2];omega
   ·rw[lQ hs];exact this
  ·have:a=b+1:=by omega
   subst this;exact Nat.le_refl _
theorem rank_lt{c:Nat→Dm}{y z:Nat}(h1:bM (c y))(h2:fp c y=y)(h:y<z):bO c y<bO c z:=by
 have:=rank_mono c (show y+1≤z by omega);rw[lR h1 h2]at this;omega
theorem cls_inj{u:Int→Bool}{b:Int}(hu:Bnd u b){c:Nat→Dm}{x y:Nat}(hx:bM (c x))(hy:bM (c y))(h:cls u c x=cls u c y):c x=c y:=by
 have hx':bM (c (fp c x)):=by rw[ew c x];exact hx
 have hy':bM (c (fp c y)):=by rw[ew c y];exact hy
 have hr:bO c (fp c x)=bO c (fp c y):=by
  unfold cls at h
  rcases Nat.lt_trichotomy (bO c (fp c x)) (bO c (fp c y)) with e | e | e
  ·have:=numP_lt hu (show bO c (fp c x)+1<bO c (fp c y)+1 by omega);omega
  ·exact e
  ·have:=numP_lt hu (show bO c (fp c y)+1<bO c (fp c x)+1 by omega);omega
 have hf:fp c x=fp c y:=by
  rcases Nat.lt_trichotomy (fp c x) (fp c y) with e | e | e
  ·have:=rank_lt hx' (fp_fp c x) e;omega
  ·exact e
  ·have:=rank_lt hy' (fp_fp c y) e;omega
 rw[←ew c x,←ew c y,hf]
theorem cls_free{u:Int→Bool}{b:Int}(hu:Bnd u b)(c:Nat→Dm)(x:Nat):u (cls u c x)=false:=(nA hu (da u (bO c (fp c x)))).1.free
theorem ee{t:Tb}{fds:List Fd}{l:List Cr}{x:Nat}{v:Vl}(h:(aS t fds l).K x=some v):v=bC t x∧bP t x∉l:=by
 by_cases hc:bP t x∈l
 ·rw[lT hc]at h;cases h
 ·rw[ef hc]at h;exact⟨(Option.some.inj h).symm,hc⟩
theorem out_inj{t:Tb}{fds:List Fd}{l:List Cr}{c:Nat→Dm}(h:GenS (aS t fds l) c)(hB:TbN t){x y:Nat}(hx:x<t.rows.length*t.attrs.length)(hy:y<t.rows.length*t.attrs.length)(he:fw (fD t) c x=fw (fD t) c y):c x=c y:=by
 have key:∀x y v,x<t.rows.length*t.attrs.length→c x = .inl v→bM (c y)→fw (fD t) c x≠fw (fD t) c y:=fun x y v hx hv hs he=>by
  rw[er hv,fP hs]at he;obtain⟨z,hz,hk⟩:=h.val_in hx hv;have h1:=(ee hk).1;have:fD t (cls (fD t) c y)=true:=lI.2 ⟨z,hz,by rw[←h1,he],by rw[←h1,he]⟩;rw[cls_free hB.bnd]at this;cases this
 by_cases h1:bM (c x)
 ·by_cases h2:bM (c y)
  ·rw[fP h1,fP h2]at he;refine cls_inj hB.bnd h1 h2 ?_
   injection he
  ·obtain⟨v,hv⟩:=fj h2;exact absurd he.symm (key y x v hy hv h1)
 ·obtain⟨v,hv⟩:=fj h1;by_cases h2:bM (c y)
  ·exact absurd he (key x y v hx hv h2)
  ·obtain⟨w,hw⟩:=fj h2;rw[er hv,er hw]at he;rw[hv,hw,he]
theorem mC{t:Tb}{c:Nat→Dm}{i a:Nat}(hi:i<t.rows.length)(ha:a<t.attrs.length):bC (ei t c) (i*t.attrs.length+a)=fw (fD t) c (i*t.attrs.length+a):=by
 have:=dr (ei t c) (i:=i) (a:=a) ha;rw[show(ei t c).attrs.length=t.attrs.length from rfl]at this;rw[this,av (by rw[iS];exact hi)];simp[ei,gG,vAt,ha]
theorem vTo2_eq{us vs:List Vl}{s:Int} : ∀{i:Nat},fq us s i=fq vs s i↔∀k,k<i→fF s k=true→vAt us k=vAt vs k
 | 0=>by simp[fq]
 | i+1=>by
  have ih:=vTo2_eq (us:=us) (vs:=vs) (s:=s) (i:=i);simp only[fq]
  cases hb:fF s i with
  | true =>
   simp only[if_true];constructor
   ·intro h;obtain⟨h1,h2⟩:=List.append_inj' h rfl;intro k hk hs
    rcases Nat.lt_or_ge k i with e | e
    ·exact ih.1 h1 k e hs
    ·have:k=i:=by omega
     subst this
     exact List.cons.inj h2 |>.1
   ·intro h;rw[ih.2 (fun k hk hs=>h k (by omega) hs)];have:=h i (by omega) hb;unfold vAt at this;rw[this]
  | false =>
   simp only[Bool.false_eq_true,if_false];rw[ih];constructor
   ·intro h k hk hs
    rcases Nat.lt_or_ge k i with e | e
    ·exact h k e hs
    ·have:k=i:=by omega
     subst this;rw[hb]at hs;cases hs
   ·intro h k hk hs;exact h k (by omega) hs
theorem qO:∀{us vs:List Vl},eQ us vs=0↔us=vs
 | [],[]=>by simp[eQ]
 | [],_::_=>by simp[eQ]
 | _::_,[]=>by simp[eQ]
 | u::us,v::vs=>by
  rw[eQ,List.cons.injEq];have h1:=dF u v;have h2:=qO (us:=us) (vs:=vs);split
  ·rename_i h;rw[h2];exact⟨fun h3=>⟨h1.1 h,h3⟩,fun h3=>h3.2⟩
  ·rename_i h;exact⟨fun h3=>absurd h3 h,fun h3=>absurd (h1.2 h3.1) h⟩
theorem agreeR_iff{a b:Rw}{s:Int}(h:a.vals.length=b.vals.length):cR a b s=true↔∀k,k<a.vals.length→fF s k=true→vAt a.vals k=vAt b.vals k:=by
 unfold cR jR;rw[beq_iff_eq,qO,←h];exact vTo2_eq
theorem jy{t:Tb}{i a:Nat}(ha:a<t.attrs.length):vAt (cL t i).vals a=bC t (i*t.attrs.length+a):=(dr t ha).symm
theorem pE{u:Tb}{fds:List Fd}(hl:∀r∈u.rows,r.vals.length=u.attrs.length)(hn:u.attrs.length≤16)(hF:bU fds):SatP u fds↔∀d∈fds,∀i k,i<u.rows.length→k<i→(∀a,a<u.attrs.length→d.l.testBit a=true→bC u (i*u.attrs.length+a)=bC u (k*u.attrs.length+a))→∀a,a<u.attrs.length→d.r.testBit a=true→bC u (i*u.attrs.length+a)=bC u (k*u.attrs.length+a):=by
 have key:∀(s:Nat),s<4294967296→∀i k,i<u.rows.length→k<i→(cR (cL u i) (cL u k) s=true↔∀a,a<u.attrs.length→s.testBit a=true→bC u (i*u.attrs.length+a)=bC u (k*u.attrs.length+a)):=fun s hs i k hi hk=>by
  have h1:(cL u i).vals.length=u.attrs.length:=by rw[av hi];exact hl _ (List.getElem_mem hi)
  have h2:(cL u k).vals.length=u.attrs.length:=by rw[av (show k<u.rows.length by omega)];exact hl _ (List.getElem_mem _)
  rw[agreeR_iff (by rw[h1,h2]),h1];constructor
  ·intro h a ha hb;rw[←jy ha,←jy ha];exact h a ha (by rw[eM _ _ hs (by omega)];exact hb)
  ·intro h a ha hb;rw[jy ha,jy ha];exact h a ha (by rw[eM _ _ hs (by omega)]at hb;exact hb)
 unfold SatP;constructor
 ·intro h d hd i k hi hk hl;obtain⟨b1,b2⟩:=hF.2 d hd;exact(key d.r b2 i k hi hk).1 (h d hd i k hi hk ((key d.l b1 i k hi hk).2 hl))
 ·intro h d hd i k hi hk hl;obtain⟨b1,b2⟩:=hF.2 d hd;exact(key d.r b2 i k hi hk).2 (h d hd i k hi hk ((key d.l b1 i k hi hk).1 hl))
theorem filT_sat{t:Tb}{fds:List Fd}{l:List Cr}{c:Nat→Dm}(h:GenS (aS t fds l) c)(hB:TbN t)(hv:TbV t)(hF:bU fds):SatP (ei t c) fds:=by
 rw[pE (qE t c) hv.attrs hF];intro d hd i k hi hk hl a ha hb
 have hi':i<t.rows.length:=by rw[iS]at hi;exact hi
 have hk':k<t.rows.length:=by omega
 have e:(ei t c).attrs.length=t.attrs.length:=rfl;rw[e]at hl ha ⊢;rw[mC hi' ha,mC hk' ha]
 have:=h.sol.dep d hd i k hi' hk (fun b hb1 hb2=>out_inj h hB (aq hi' hb1) (aq hk' hb1) (by
  have:=hl b hb1 hb2
  rwa [mC hi' hb1,mC hk' hb1]at this)) a ha hb
 have h2:∀x y,c x=c y→fw (fD t) c x=fw (fD t) c y:=fun x y he=>by
  by_cases h1:bM (c x)
  ·rw[fP h1,fP (by rw[←he];exact h1),qR he]
  ·obtain⟨v,hv⟩:=fj h1;rw[er hv,er (he▸hv)]
 exact h2 _ _ this
theorem filT_only{t:Tb}{fds:List Fd}{l:List Cr}{c:Nat→Dm}(h:GenS (aS t fds l) c){i a:Nat}(hi:i<t.rows.length)(ha:a<t.attrs.length)(hne:bC (ei t c) (i*t.attrs.length+a)≠bC t (i*t.attrs.length+a)):bP t (i*t.attrs.length+a)∈l:=by
 refine Classical.byContradiction fun hc=>hne ?_
 rw[mC hi ha];exact er (h.sol.fix _ _ (aq hi ha) (ef hc))
open Classical in
noncomputable def pick(p:Vl→Prop)(r:Nat→Prop):Dm:=if h:∃v,p v then .inl h.choose else .inr (Classical.epsilon r)
theorem genS_ok{q:Prob}(h:Okq q):∃c,GenS q c:=by
 obtain⟨σ0,h0⟩:=h
 let Fq:Nat→Nat→Prop:=fun x y=>∀σ,Sol q σ→σ x=σ y
 let Vq:Nat→Vl→Prop:=fun x v=>∀σ,Sol q σ→σ x = .inl v
 let c:Nat→Dm:=fun x=>pick (Vq x) (fun y=>Fq y x)
 have hc:∀x,c x=pick (Vq x) (fun y=>Fq y x):=fun _=>rfl
 have h1:∀x y,Fq x y→c x=c y:=fun x y hf=>by
  have e1:Vq x=Vq y:=funext fun v=>propext ⟨fun g σ hσ=>by rw[←hf σ hσ];exact g σ hσ,fun g σ hσ=>by rw[hf σ hσ];exact g σ hσ⟩
  have e2:(fun z=>Fq z x)=fun z=>Fq z y:=funext fun z=>propext ⟨fun g σ hσ=>(g σ hσ).trans (hf σ hσ),fun g σ hσ=>(g σ hσ).trans (hf σ hσ).symm⟩
  rw[hc,hc,e1,e2]
 have h2:∀x v,c x = .inl v→Vq x v:=fun x v he=>by
  rw[hc]at he;unfold pick at he;split at he
  ·rename_i hv;have:=hv.choose_spec;rw[Sum.inl.inj he]at this;exact this
  ·cases he
 have h3:∀x s,c x = .inr s→Fq s x:=fun x s he=>by
  rw[hc]at he;unfold pick at he;split at he
  ·cases he
  ·have hx:∃y,Fq y x:=⟨x,fun _ _=>rfl⟩;have:=Classical.epsilon_spec hx;rw[Sum.inr.inj he]at this;exact this
 have h4:∀x y,c x=c y→Fq x y:=fun x y he σ hσ=>by
  cases hx:c x with
  | inl v=>rw[h2 x v hx σ hσ,h2 y v (he▸hx) σ hσ]
  | inr s=>rw[←h3 x s hx σ hσ,h3 y s (he▸hx) σ hσ]
 refine⟨c,⟨fun x v hx hk=>?_,fun d hd i k hi hk hl a ha hb=>h1 _ _ fun σ hσ=>hσ.dep d hd i k hi hk (fun b hb1 hb2=>h4 _ _ (hl b hb1 hb2) σ hσ) a ha hb⟩,fun σ hσ=>⟨σ,fun x hx=>?_⟩⟩
 ·have hV:Vq x v:=fun σ hσ=>hσ.fix x v hx hk
  cases hcx:c x with
  | inl w =>
   have:=h2 x w hcx σ0 h0;rw[hV σ0 h0]at this;exact this.symm
  | inr s =>
   rw[hc]at hcx;unfold pick at hcx;rw[dif_pos ⟨v,hV⟩]at hcx;cases hcx
 ·cases hcx:c x with
  | inl w=>exact h2 x w hcx σ hσ
  | inr s=>exact(h3 x s hcx σ hσ).symm
theorem vl_of{x:Rcp}{n:Nat} : ∀r∈(ot x n).rows,∀v∈r.vals,∃m,v=ofV m:=by
 intro r hr v hv;obtain⟨i,hi,rfl⟩:=List.mem_map.1 hr;obtain⟨j,_,rfl⟩:=List.mem_map.1 hv;exact⟨_,rfl⟩
theorem ofV_n(m:Int):(ofV m).n≤7∧(ofV m).s.size≤2:=by
 unfold ofV
 repeat' split
 all_goals exact⟨by decide,by decide⟩
theorem CsV.num{c:Cs}(v:CsV c):TbN (csT c):=by
 intro y hy
 have hn:0<(csT c).attrs.length:=by
  rcases Nat.eq_zero_or_pos (csT c).attrs.length with h | h
  ·rw[h]at hy;omega
  ·exact h
 have hm:y / (csT c).attrs.length<(csT c).rows.length:=by rw[Nat.div_lt_iff_lt_mul hn];exact hy
 unfold bC;rw[av hm];have hl:=v.tv.len _ (List.getElem_mem hm)
 have ha:y % (csT c).attrs.length<(csT c).rows[y / (csT c).attrs.length].vals.length:=by rw[hl];exact Nat.mod_lt _ hn
 rw[fC ha];obtain⟨k,hk⟩:=vl_of _ (List.getElem_mem hm) _ (List.getElem_mem ha);rw[hk];have:=(ofV_n k).1;omega
theorem out_size{t:Tb}{fds:List Fd}{l:List Cr}{c:Nat→Dm}(h:GenS (aS t fds l) c)(hs:∀y,y<t.rows.length*t.attrs.length→(bC t y).s.size≤maxLen){x:Nat}(hx:x<t.rows.length*t.attrs.length):(fw (fD t) c x).s.size≤maxLen:=by
 by_cases h1:bM (c x)
 ·rw[fP h1];exact Nat.zero_le _
 ·obtain⟨v,hv⟩:=fj h1;rw[er hv];obtain⟨z,hz,hk⟩:=h.val_in hx hv;rw[(ee hk).1];exact hs z hz
end
theorem dif_enough{t u:Tb}{fds:List Fd}{l:List Cr}(ha:u.attrs.length=t.attrs.length)(hr:u.rows.length=t.rows.length)(hul:∀r∈u.rows,r.vals.length=u.attrs.length)(hn:u.attrs.length≤16)(hF:bU fds)(hs:SatP u fds)
  (hd:∀x,x<t.rows.length*t.attrs.length→bP t x∉l→bC u x=bC t x):Okq (aS t fds l):=by
 rw[pE hul hn hF]at hs;refine⟨fun x=>.inl (bC u x),fun x v hx hk=>?_,fun d hdm i k hi hk hl a hab hb=>?_⟩
 ·obtain⟨h1,h2⟩:=ee hk;rw[h1];exact congrArg _ (hd x hx h2)
 ·have:=hs d hdm i k (by rw[hr];exact hi) hk (fun a ha2 hb2=>by
   have h3:=hl a (show a<t.attrs.length by rw[←ha];exact ha2) hb2;have h4:(Sum.inl (bC u (i*t.attrs.length+a)):Dm)= .inl (bC u (k*t.attrs.length+a)):=h3;rw[ha]
   exact Sum.inl.inj h4) a (by rw[ha];exact hab) hb
  rw[ha]at this;exact congrArg Sum.inl this
theorem least_changes{t u:Tb}{fds:List Fd}{l:List Cr}(hv:TbV t)(ha:u.attrs.length=t.attrs.length)(hr:u.rows.length=t.rows.length)(hul:∀r∈u.rows,r.vals.length=u.attrs.length)(hn:u.attrs.length≤16)(hF:bU fds)(hs:SatP u fds)
  (hmin:∀L:List Cr,Okq (aS t fds L)→(∀c∈L,c∈ak t)→L.Nodup→l.length≤L.length) (hsub:∀c∈bT t u (t.rows.length*t.attrs.length),c∈l):(bT t u (t.rows.length*t.attrs.length)).length=l.length:=by
 have hmem:∀c,c∈bT t u (t.rows.length*t.attrs.length)↔∃x,x<t.rows.length*t.attrs.length∧fI (bC t x) (bC u x)≠0∧bP t x=c:=fun c=>by
  unfold bT;rw[List.mem_map];constructor
  ·rintro⟨x,h1,h2⟩;rw[List.mem_filter,List.mem_range]at h1;exact⟨x,h1.1,by simpa using h1.2,h2⟩
  ·rintro⟨x,h1,h2,h3⟩;exact⟨x,List.mem_filter.2 ⟨List.mem_range.2 h1,by simpa using h2⟩,h3⟩
 have hnd:(bT t u (t.rows.length*t.attrs.length)).Nodup:=by
  unfold bT;refine iN (List.nodup_range.filter _) (fun a ha b hb he=>?_);exact hv.crAt_inj (List.mem_range.1 (List.mem_filter.1 ha).1) (List.mem_range.1 (List.mem_filter.1 hb).1) he
 have h1:l.length≤(bT t u (t.rows.length*t.attrs.length)).length:=by
  refine hmin _ (dif_enough ha hr hul hn hF hs (fun x hx hnm=>?_)) (fun c hc=>?_) hnd
  ·refine Classical.byContradiction fun hne=>hnm ((hmem _).2 ⟨x,hx,fun h=>hne ((dF _ _).1 h).symm,rfl⟩)
  ·obtain⟨x,hx,_,rfl⟩:=(hmem c).1 hc;exact iq hx
 have h2:=hnd.length_le_of_subset hsub;omega
def eG(vs:List Cr)(c:Cr):Nat:=bsC vs c 0 vs.length
theorem oZ{vs:List Cr}(hs:aY vs){c:Cr}(hc:c∈vs):eG vs c<vs.length∧dg vs (eG vs c)=c:=by
 obtain⟨h1,h2⟩:=(bsC_mem hs c).2 hc;refine⟨h1,?_⟩;unfold dg eG;rw[ah _ _ h1];exact(fU _ _).1 h2
theorem bc{vs:List Cr}(hs:aY vs):vs.Nodup:=hs.imp (fun h e=>by subst e;exact ez _ h)
theorem idxC_lt{vs:List Cr}(hs:aY vs){a b:Cr}(ha:a∈vs)(hb:b∈vs)(h:cLt a b):eG vs a<eG vs b:=by
 obtain⟨a1,a2⟩:=oZ hs ha;obtain⟨b1,b2⟩:=oZ hs hb;have ga:dg vs (eG vs a)=vs[eG vs a]:=ah _ _ a1;have gb:dg vs (eG vs b)=vs[eG vs b]:=ah _ _ b1
 rcases Nat.lt_trichotomy (eG vs a) (eG vs b) with h1 | h1 | h1
 ·exact h1
 ·rw[h1,b2]at a2;subst a2;exact absurd h (ez _)
 ·have:=dy hs b1 a1 h1;rw[←ga,←gb,a2,b2]at this;exact absurd (ek h this) (ez _)
theorem edge_map{vs K:List Cr}(hs:aY vs)(hK:aY K)(hsub:∀c∈K,c∈vs):K.map (eG vs)=cP vs K:=by
 refine kg _ _ ?_ (List.pairwise_lt_range.filter _) (fun x=>?_)
 ·rw[List.pairwise_map];refine List.Pairwise.imp_of_mem ?_ hK;intro a b ha hb h;exact idxC_lt hs (hsub a ha) (hsub b hb) h
 ·rw[List.mem_map,iU];constructor
  ·rintro⟨c,hc,rfl⟩;obtain⟨h1,h2⟩:=oZ hs (hsub c hc);exact⟨h1,by rw[h2];exact hc⟩
  ·rintro⟨h1,h2⟩;refine⟨dg vs x,h2,?_⟩;obtain⟨h3,h4⟩:=oZ hs (hsub _ h2);exact cAtD_inj (bc hs) h3 h1 h4
theorem gV:∀l1 l2:List Cr,aY l1→aY l2→(∀x,x∈l1↔x∈l2)→l1=l2
 | [],[],_,_,_=>rfl
 | [],y::l2,_,_,h=>by have:=(h y).2 List.mem_cons_self;cases this
 | x::l1,[],_,_,h=>by have:=(h x).1 List.mem_cons_self;cases this
 | x::l1,y::l2,h1,h2,h=>by
  obtain⟨a1,a2⟩:=List.pairwise_cons.1 h1;obtain⟨b1,b2⟩:=List.pairwise_cons.1 h2;have hx:=(h x).1 List.mem_cons_self;have hy:=(h y).2 List.mem_cons_self
  have e:x=y:=by
   rcases List.mem_cons.1 hx with e | hx
   ·exact e
   ·rcases List.mem_cons.1 hy with e | hy
    ·exact e.symm
    ·exact absurd (ek (b1 x hx) (a1 y hy)) (ez _)
  subst e;congr 1;refine gV l1 l2 a2 b2 (fun z=>⟨fun hz=>?_,fun hz=>?_⟩)
  ·rcases List.mem_cons.1 ((h z).1 (List.mem_cons_of_mem _ hz)) with e | hz2
   ·subst e;exact absurd (a1 z hz) (ez _)
   ·exact hz2
  ·rcases List.mem_cons.1 ((h z).2 (List.mem_cons_of_mem _ hz)) with e | hz2
   ·subst e;exact absurd (b1 z hz) (ez _)
   ·exact hz2
theorem edgeC_ok{vs K:List Cr}(hK:K≠[])(hsub:∀c∈K,c∈vs):cP vs K≠[]∧(cP vs K).Pairwise (· < ·)∧∀v∈cP vs K,v<vs.length:=by
 refine⟨fun h=>?_,List.pairwise_lt_range.filter _,fun v hv=>(iU.1 hv).1⟩
 cases K with
 | nil=>exact hK rfl
 | cons c K =>
  obtain⟨v,hv,he⟩:=List.mem_iff_getElem.1 (hsub c List.mem_cons_self);have hg:dg vs v=vs[v]:=ah _ _ hv;have:v∈cP vs (c::K):=iU.2 ⟨hv,by rw[hg,he];exact List.mem_cons_self⟩;rw[h]at this;cases this
theorem hsb_cores{vs:List Cr}{cores:List (List Cr)}(hn:vs.length≤200)(hc:cores.length≤2000)(hne:∀K∈cores,K≠[])(hsub:∀K∈cores,∀c∈K,c∈vs):HsB (aX vs.length) (cores.map (cP vs)):=by
 have hl:(aX vs.length).length=vs.length:=by simp[aX]
 refine⟨fun v hv=>?_,by rw[hl];exact hn,by simpa using hc,fun e he=>?_⟩
 ·rw[ah _ _ hv];simp[aX]
 ·rw[hl];obtain⟨K,hK,rfl⟩:=List.mem_map.1 he;exact edgeC_ok (hne K hK) (hsub K hK)
theorem valid39(ws:List Int)(es:List (List Int))(f g:Bool)(hl:∀e∈es,e.length≤1000000):aR Tryz.prog 113 [jL f g ws es] fun r=>r = .int .i64 (mo ws es):=by
 unfold mo;by_cases h1:200<ws.length
 ·rw[if_pos (.inl h1)];refine aC (aD tok Tryz.func113 rfl rfl ?_);refine wx ?_;simp -implicitDefEqProofs -dsimp[Tryz.f113,List.replicate,jL,LLi,show(200:Int)<ws.length by omega,L1]
 ·by_cases h2:2000<es.length
  ·rw[if_pos (.inr h2)];refine aC (aD tok Tryz.func113 rfl rfl ?_);refine wx ?_;simp -implicitDefEqProofs -dsimp[Tryz.f113,List.replicate,jL,LLi,show ¬(200:Int)<ws.length by omega,show(2000:Int)<es.length by omega,L1]
  ·rw[if_neg (fun h=>h.elim h1 h2)]
   obtain⟨E,hE⟩:∃E,E=if ws.all wOk then jW ws.length es else 1:=⟨_,rfl⟩
   rw[←hE];refine aC (aD tok Tryz.func113 rfl rfl ?_);refine wx ?_;simp -implicitDefEqProofs -dsimp[Tryz.f113,List.replicate,jL,LLi,show ¬(200:Int)<ws.length by omega,show ¬(2000:Int)<es.length by omega,L1];refine aK (W_loopM 39 [2,3,18,19,20,21,22,23,24,25,26,27,28,29,30,31,32,33,34,35,36,37,38] (by simp[mB]<;>rfl) (σ:=Nat) (fun i=>i≤ws.length∧(if(ws.drop i).all wOk then jW ws.length es else 1)=E) (fun i=>ws.length-i) (fun i=>[(3,.int .i64 i)]) (fun _=>[B.cells [.lst 1 f (ws.map aW),.lst 1 g (es.map (L1 false))]]) 0 ⟨by omega,by rw[List.drop_zero,hE]⟩ (by simp) (by simp[L1]) (by simp) ?_);rintro i ⟨hi,hx⟩ N1 Q1 hN1 hQ1;by_cases hb:i<ws.length
   ·rw[List.drop_eq_getElem_cons hb,List.all_cons]at hx;obtain⟨w,hw⟩:∃w,w=ws[i]:=⟨_,rfl⟩;rw[←hw]at hx;have hw':=hw.symm;by_cases q1:1≤w
    ·by_cases q2:w≤1000000
     ·rw[show wOk w=true by simp[wOk,q1,q2],Bool.true_and]at hx;refine wx ?_;simp -implicitDefEqProofs -dsimp[hb,hw',aW,show ¬w<1 by omega,show ¬(1000000:Int)<w by omega,aJ i (by omega),L1];refine hN1 (i+1) _ _ ⟨by omega,hx⟩ (by omega) ?_ ⟨[],?_⟩ ?_ ?_<;>simp[or_imp,forall_and,L1,aW]
     ·rw[show wOk w=false by simp[wOk,q2],Bool.false_and,if_neg (by simp)]at hx;refine wx ?_;simp -implicitDefEqProofs -dsimp[hb,hw',aW,show ¬w<1 by omega,show(1000000:Int)<w by omega,L1];refine hQ1 _ _ _ ?_;simp -implicitDefEqProofs -dsimp[L1];exact hx
    ·rw[show wOk w=false by simp[wOk,q1],Bool.false_and,if_neg (by simp)]at hx;refine wx ?_;simp -implicitDefEqProofs -dsimp[hb,hw',aW,show w<1 by omega,L1];refine hQ1 _ _ _ ?_;simp -implicitDefEqProofs -dsimp[L1];exact hx
   ·rw[List.drop_of_length_le (by omega),List.all_nil,if_pos rfl]at hx;refine wx ?_;simp -implicitDefEqProofs -dsimp[hb,L1];refine hQ1 _ _ _ ?_;simp -implicitDefEqProofs -dsimp[L1];refine aK (W_loopM 77 [2,4,5,6,7,39,40,41,42,43,44,45,46,47,48,49,50,51,52,53,54,55,56,57,58,59,60,61,62,63,64,65,66,67,68,69,70,71,72,73,74,75,76] (by simp[mB]<;>rfl) (σ:=Nat) (fun j=>j≤es.length∧jW ws.length (es.drop j)=E) (fun j=>es.length-j) (fun j=>[(4,.int .i64 j)]) (fun _=>[B.cells [.lst 1 f (ws.map aW),.lst 1 g (es.map (L1 false))]]) 0 ⟨by omega,by rw[List.drop_zero,hx]⟩ (by simp) (by simp[L1]) (by simp) ?_);rintro j ⟨hj,hy⟩ N2 Q2 hN2 hQ2;by_cases hjb:j<es.length
    ·rw[List.drop_eq_getElem_cons hjb,jW,List.all_cons]at hy;have hle:=hl es[j] (List.getElem_mem hjb);obtain⟨e,he⟩:∃e,e=es[j]:=⟨_,rfl⟩;rw[←he]at hy hle;have he':=he.symm;obtain⟨R,hR⟩:∃R,R=(es.drop (j+1)).all (eOk ws.length):=⟨_,rfl⟩;rw[←hR]at hy;rw[eOk]at hy;refine wx ?_;simp -implicitDefEqProofs -dsimp[hjb,L1];refine aK (W_loopM 75 [2,5,6,7,46,47,48,49,50,51,52,53,54,55,56,57,58,59,60,61,62,63,64,65,66,67,68,69,70,71,72,73,74] (by simp[mB]<;>rfl) (σ:=Nat×Int) (fun p=>p.1≤e.length∧-1≤p.2∧(p.1=0→p.2 = -1)∧(0<p.1→0≤p.2)∧(if((gL ws.length p.2 (e.drop p.1)&&!e.isEmpty)&&R)=true then(0:Int) else 1)=E) (fun p=>e.length-p.1) (fun p=>[(6,.int .i64 p.1),(5,.int .i64 p.2)]) (fun _=>[B.cells [.lst 1 f (ws.map aW),.lst 1 g (es.map (L1 false))]]) (0,-1) ⟨by simp,by simp,by simp,by simp,by rw[List.drop_zero];exact hy⟩ (by simp) (by simp[L1]) (by simp) ?_);rintro⟨k,last⟩ ⟨hk,hm1,hm2,hm3,hz⟩ N3 Q3 hN3 hQ3;simp only at hk hz hN3 hm1 hm2 hm3;by_cases hkb:k<e.length
     ·rw[List.drop_eq_getElem_cons hkb,gL]at hz;obtain⟨v,hv⟩:∃v,v=e[k]:=⟨_,rfl⟩;rw[←hv]at hz;have hv':=hv.symm;by_cases q1:last<v
      ·by_cases q2:v<ws.length
       ·rw[decide_eq_true q1,decide_eq_true q2,Bool.true_and,Bool.true_and]at hz;refine wx ?_;simp -implicitDefEqProofs -dsimp[hjb,he',hkb,hv',aW,show ¬v≤last by omega,show ¬(ws.length:Int)≤v by omega,aJ k (by omega),L1];refine hN3 (k+1,v) _ _ ⟨by simp only;omega,by simp only;omega,by simp,by simp only;omega,hz⟩ (by omega) ?_ ⟨[],?_⟩ ?_ ?_<;>simp[or_imp,forall_and,L1,aW]
       ·rw[decide_eq_false q2,Bool.and_false,Bool.false_and,Bool.false_and,Bool.false_and,if_neg (by simp)]at hz;refine wx ?_;simp -implicitDefEqProofs -dsimp[hjb,he',hkb,hv',aW,show ¬v≤last by omega,show(ws.length:Int)≤v by omega,L1];refine hQ3 _ _ _ ?_;simp -implicitDefEqProofs -dsimp[L1];refine hQ2 _ _ _ ?_;simp -implicitDefEqProofs -dsimp[L1];exact hz
      ·rw[decide_eq_false q1,Bool.false_and,Bool.false_and,Bool.false_and,Bool.false_and,if_neg (by simp)]at hz;refine wx ?_;simp -implicitDefEqProofs -dsimp[hjb,he',hkb,hv',aW,show v≤last by omega,L1];refine hQ3 _ _ _ ?_;simp -implicitDefEqProofs -dsimp[L1];refine hQ2 _ _ _ ?_;simp -implicitDefEqProofs -dsimp[L1];exact hz
     ·rw[List.drop_of_length_le (by omega),gL,Bool.true_and]at hz;by_cases h0:e.length=0
      ·have hen:e=[]:=List.length_eq_zero_iff.1 h0;have hl1:=hm2 (by omega);rw[hen]at hz;simp at hz;subst hl1;refine wx ?_;simp -implicitDefEqProofs -dsimp[hjb,he',hkb,L1];refine hQ3 _ _ _ ?_;simp -implicitDefEqProofs -dsimp[L1];refine hQ2 _ _ _ ?_;simp -implicitDefEqProofs -dsimp[L1];exact hz
      ·have hen:e.isEmpty=false:=by cases e with
        | nil=>simp at h0
        | cons a b=>rfl
       rw[hen,Bool.not_false,Bool.true_and,hR]at hz;have hl1:=hm3 (by omega);refine wx ?_;simp -implicitDefEqProofs -dsimp[hjb,he',hkb,L1];refine hQ3 _ _ _ ?_;simp -implicitDefEqProofs -dsimp[show ¬last<0 by omega,aJ j (by omega),L1];refine hN2 (j+1) _ _ ⟨by omega,hz⟩ (by omega) ?_ ⟨[],?_⟩ ?_ ?_<;>simp[or_imp,forall_and,L1,aW]
    ·rw[List.drop_of_length_le (by omega)]at hy;refine wx ?_;simp -implicitDefEqProofs -dsimp[hjb,L1];refine hQ2 _ _ _ ?_;simp -implicitDefEqProofs -dsimp[L1];exact hy
theorem valid39N(ws:List Int)(es:List (List Nat))(f g:Bool)(hl:∀e∈es,e.length≤1000000):aR Tryz.prog 113 [ab f g ws es] fun r=>r = .int .i64 (kf ws es):=by
 have:=valid39 ws (cst es) f g (fun e he=>by obtain⟨e',h,rfl⟩:=List.mem_map.1 he;rw[List.length_map];exact hl e' h)
 rwa [encHs_cst]at this
theorem jr{α:Type}(p:α→Bool)(l:List α)(i:Nat)(h:i<l.length):(l.drop i).any p=(p l[i]||(l.drop (i+1)).any p):=by rw[List.drop_eq_getElem_cons h];rfl
theorem has39(e:List Nat)(v:Nat)(fe:Bool)(hl:e.length≤1000000):aR Tryz.prog 164 [Ln fe e,.int .i64 (v:Int)] fun r=>r = .bool (e.contains v):=by
 obtain⟨E,hE⟩:∃E,E=e.contains v:=⟨_,rfl⟩;rw[←hE]
 have hc:∀l:List Nat,l.contains v=l.any fun u=>decide (u=v):=fun l=>by
  rw[Bool.eq_iff_iff];simp
 rw[hc]at hE;refine aC (aD tok Tryz.func164 rfl rfl ?_);refine wx ?_;simp -implicitDefEqProofs -dsimp[Tryz.f164,List.replicate,Ln];refine aK (W_loopM 18 [4,5,6,7,8,9,10,11,12,13,14,15,16,17] (by simp[mB]<;>rfl) (σ:=Nat) (fun i=>i≤e.length∧(e.drop i).any (fun u=>decide (u=v))=E) (fun i=>e.length-i) (fun i=>[(5,.int .i64 i)]) (fun _=>[]) 0 ⟨by omega,by rw[List.drop_zero,hE]⟩ (by simp) rfl (by simp) ?_);rintro i ⟨hi,hx⟩ N Q hN hQ;by_cases hb:i<e.length
 ·rw[jr _ _ _ hb]at hx;obtain⟨u,hu⟩:∃u,u=e[i]:=⟨_,rfl⟩;rw[←hu]at hx;have hu':=hu.symm;by_cases hq:u=v
  ·rw[decide_eq_true hq,Bool.true_or]at hx;refine wx ?_;simp -implicitDefEqProofs -dsimp[hb,hu',eN,hq];refine hQ _ _ _ ?_;simp -implicitDefEqProofs -dsimp[];exact hx.symm
  ·rw[decide_eq_false hq,Bool.false_or]at hx;refine wx ?_;simp -implicitDefEqProofs -dsimp[hb,hu',eN,hq,show ¬(u:Int)=v by omega,aJ i (by omega)];refine hN (i+1) _ _ ⟨by omega,hx⟩ (by omega) (by simp) ⟨[],rfl⟩ (by simp) (by simp)
 ·rw[List.drop_of_length_le (by omega),List.any_nil]at hx;refine wx ?_;simp -implicitDefEqProofs -dsimp[hb];refine hQ _ _ _ ?_;simp -implicitDefEqProofs -dsimp[];exact hx.symm
theorem meets39(a b:List Nat)(fa fb:Bool)(hl:a.length≤1000000)(hm:b.length≤1000000):aR Tryz.prog 197 [Ln fa a,Ln fb b] fun r=>r = .bool (gq a b):=by
 obtain⟨E,hE⟩:∃E,E=gq a b:=⟨_,rfl⟩;rw[←hE];unfold gq at hE;refine aC (aD tok Tryz.func197 rfl rfl ?_);refine wx ?_;simp -implicitDefEqProofs -dsimp[Tryz.f197,List.replicate,Ln];refine aK (W_loopM 18 [4,5,6,7,8,9,10,11,12,13,14,15,16,17] (by simp[mB]<;>rfl) (σ:=Nat) (fun i=>i≤a.length∧(a.drop i).any (fun v=>b.contains v)=E) (fun i=>a.length-i) (fun i=>[(5,.int .i64 i)]) (fun _=>[]) 0 ⟨by omega,by rw[List.drop_zero,hE]⟩ (by simp) rfl (by simp) ?_);rintro i ⟨hi,hx⟩ N Q hN hQ;by_cases hb:i<a.length
 ·rw[jr _ _ _ hb]at hx;obtain⟨u,hu⟩:∃u,u=a[i]:=⟨_,rfl⟩;rw[←hu]at hx;have hu':=hu.symm;have c1:=has39 b u fb hm;simp only[Ln]at c1
  cases hq:b.contains u with
  | true =>
   rw[hq]at c1 hx;refine wx ?_;simp -implicitDefEqProofs -dsimp[hb,hu',eN];refine(aF (c1) (by simp)).mono ?_;rintro r H' ⟨rfl,rfl⟩;simp -implicitDefEqProofs -dsimp[];refine hQ _ _ _ ?_;simp -implicitDefEqProofs -dsimp[];simpa using hx.symm
  | false =>
   rw[hq]at c1 hx;refine wx ?_;simp -implicitDefEqProofs -dsimp[hb,hu',eN];refine(aF (c1) (by simp)).mono ?_;rintro r H' ⟨rfl,rfl⟩;simp -implicitDefEqProofs -dsimp[aJ i (by omega)];refine hN (i+1) _ _ ⟨by omega,by simpa using hx⟩ (by omega) (by simp) ⟨[],rfl⟩ (by simp) (by simp)
 ·rw[List.drop_of_length_le (by omega),List.any_nil]at hx;refine wx ?_;simp -implicitDefEqProofs -dsimp[hb];refine hQ _ _ _ ?_;simp -implicitDefEqProofs -dsimp[];exact hx.symm
def dL(fc fx:Bool)(ch ex:List Nat)(b:Int):V:=.agg [Ln fc ch,Ln fx ex,.int .i64 b]
@[simp] theorem encSt_pure (fc fx:Bool) (ch ex:List Nat) (b:Int):AM.Pure (dL fc fx ch ex b):=by simp[dL]
theorem closed39(ws:List Int)(es:List (List Nat))(f g fc fx:Bool)(ch ex:List Nat)(b:Int)(hne:es.length≤1000000)(hl:∀e∈es,e.length≤1000000)(hx:ex.length≤1000000):
  aR Tryz.prog 162 [ab f g ws es,dL fc fx ch ex b] fun r=>r = .bool (fV es ex):=by
 obtain⟨E,hE⟩:∃E,E=fV es ex:=⟨_,rfl⟩;rw[←hE];unfold fV at hE;refine aC (aD tok Tryz.func162 rfl rfl ?_);refine wx ?_;simp -implicitDefEqProofs -dsimp[Tryz.f162,List.replicate,ab,dL,L1,LLn,Ln];refine aK (W_loopM 40 [4,5,6,7,8,9,10,11,12,13,14,15,16,17,18,19,20,21,22,23,24,25,26,27,28,29,30,31,32,33,34,35,36,37,38,39] (by simp[mB]<;>rfl) (σ:=Nat) (fun i=>i≤es.length∧((es.drop i).any fun e=>e.all fun v=>ex.contains v)=E) (fun i=>es.length-i) (fun i=>[(5,.int .i64 i)]) (fun _=>[B.cells [.lst 1 f (ws.map aW),.lst 1 g (es.map (Ln false))],B.cells [.lst 1 fc (ch.map eN),.lst 1 fx (ex.map eN),.int .i64 b]]) 0 ⟨by omega,by rw[List.drop_zero,hE]⟩ (by simp) rfl (by simp) ?_);rintro i ⟨hi,hy⟩ N Q hN hQ;by_cases hb:i<es.length
 ·rw[jr _ _ _ hb]at hy;have hle:=hl es[i] (List.getElem_mem hb);obtain⟨e,he⟩:∃e,e=es[i]:=⟨_,rfl⟩;rw[←he]at hy hle;have he':=he.symm;refine wx ?_;simp -implicitDefEqProofs -dsimp[hb,L1,LLn,Ln];refine aK (W_loopM 39 [6,7,15,16,17,18,19,20,21,22,23,24,25,26,27,28,29,30,31,32,33,34,35,36,37,38] (by simp[mB]<;>rfl) (σ:=Nat×Bool) (fun p=>p.1≤e.length∧(p.2&&(e.drop p.1).all fun v=>ex.contains v)=(e.all fun v=>ex.contains v)) (fun p=>e.length-p.1) (fun p=>[(7,.int .i64 p.1),(6,.bool p.2)]) (fun _=>[B.cells [.lst 1 f (ws.map aW),.lst 1 g (es.map (Ln false))],B.cells [.lst 1 fc (ch.map eN),.lst 1 fx (ex.map eN),.int .i64 b]]) (0,true) ⟨by simp,by simp⟩ (by simp) rfl (by simp) ?_);rintro⟨k,a⟩ ⟨hk,hz⟩ N2 Q2 hN2 hQ2;simp only at hk hz hN2;by_cases hkb:k<e.length
  ·rw[List.drop_eq_getElem_cons hkb,List.all_cons]at hz;obtain⟨v,hv⟩:∃v,v=e[k]:=⟨_,rfl⟩;rw[←hv]at hz;have hv':=hv.symm;have c1:=has39 ex v fx hx
   cases a with
   | false =>
    refine wx ?_;simp -implicitDefEqProofs -dsimp[hb,he',hkb,L1,LLn,Ln];refine .inr ⟨aI (by kernel_rfl),?_⟩;simp -implicitDefEqProofs -dsimp[aJ k (by omega),L1,LLn,Ln];refine hN2 (k+1,false) _ _ ⟨by simp only;omega,by simpa using hz⟩ (by simp only;omega) (by simp) ⟨[],rfl⟩ (by simp) (by simp)
   | true =>
    refine wx ?_;simp -implicitDefEqProofs -dsimp[hb,he',hkb,hv',eN,L1,LLn,Ln];refine .inr ⟨aI (by kernel_rfl),?_⟩;simp only[Ln]at c1;refine ae _ (aF (c1) (by simp)) ?_;simp -implicitDefEqProofs -dsimp[aJ k (by omega),L1,LLn,Ln];refine hN2 (k+1,ex.contains v) _ _ ⟨by simp only;omega,by simpa using hz⟩ (by simp only;omega) (by simp) ⟨[],rfl⟩ (by simp) (by simp)
  ·rw[List.drop_of_length_le (by omega),List.all_nil,Bool.and_true]at hz;rw[←hz]at hy
   cases a with
   | true =>
    refine wx ?_;simp -implicitDefEqProofs -dsimp[hb,he',hkb,L1,LLn,Ln];refine hQ2 _ _ _ ?_;simp -implicitDefEqProofs -dsimp[L1,LLn,Ln];refine hQ _ _ _ ?_;simp -implicitDefEqProofs -dsimp[L1,LLn,Ln];simpa using hy.symm
   | false =>
    refine wx ?_;simp -implicitDefEqProofs -dsimp[hb,he',hkb,L1,LLn,Ln];refine hQ2 _ _ _ ?_;simp -implicitDefEqProofs -dsimp[aJ i (by omega),L1,LLn,Ln];refine hN (i+1) _ _ ⟨by omega,by simpa using hy⟩ (by omega) (by simp) ⟨[],rfl⟩ (by simp) (by simp)
 ·rw[List.drop_of_length_le (by omega),List.any_nil]at hy;refine wx ?_;simp -implicitDefEqProofs -dsimp[hb,L1,LLn,Ln];refine hQ _ _ _ ?_;simp -implicitDefEqProofs -dsimp[L1,LLn,Ln];exact hy.symm
theorem okR_parts{es:List (List Nat)}{ch:List Nat}{x:Shr}(h:okR es ch x=true):∃j:Nat,x.e=j∧j<es.length∧1≤x.a∧x.a≤1000000000000∧gq (es.getD j []) ch=false:=by
 simp only[okR,Bool.and_eq_true,decide_eq_true_eq,Bool.not_eq_true']at h;obtain⟨⟨⟨⟨h1,h2⟩,h3⟩,h4⟩,h5⟩:=h;obtain⟨j,hj⟩:∃j:Nat,x.e=j:=⟨x.e.toNat,by omega⟩;rw[hj,Int.toNat_natCast]at h5;exact⟨j,hj,by omega,h3,h4,h5⟩
theorem right39(ws:List Int)(es:List (List Nat))(f g fc fx fl:Bool)(ch ex:List Nat)(b:Int)(l:List Shr)(hw:ws.length≤1000000)(hne:es.length≤1000000)(hl:∀e∈es,e.length≤1000000)(hc:ch.length≤1000000)(hx:ex.length≤1000000):
  aR Tryz.prog 163 [ab f g ws es,dL fc fx ch ex b,LSh fl l] fun r=>r = .bool (il ws es ch ex b l):=by
 obtain⟨E,hE⟩:∃E,E=il ws es ch ex b l:=⟨_,rfl⟩;rw[←hE];unfold il at hE;by_cases h0:10000<l.length
 ·rw[decide_eq_false (by omega),Bool.false_and]at hE;subst hE;refine aC (aD tok Tryz.func163 rfl rfl ?_);refine wx ?_;simp -implicitDefEqProofs -dsimp[Tryz.f163,List.replicate,ab,dL,show(10000:Int)<l.length by omega,L1,LLn,Ln,LSh,aQ]
 ·rw[decide_eq_true (by omega),Bool.true_and]at hE;obtain⟨B0,hB0⟩:∃B0,B0=((List.range ws.length).all (fun v=>decide (ldR es v l≤ws.getD v 0)||ex.contains v)&&decide (b≤jN l)):=⟨_,rfl⟩;rw[←hB0]at hE;refine aC (aD tok Tryz.func163 rfl rfl ?_);refine wx ?_;simp -implicitDefEqProofs -dsimp[Tryz.f163,List.replicate,ab,dL,show ¬(10000:Int)<l.length by omega,L1,LLn,Ln,LSh,aQ];refine aK (W_loopM 75 [6,7,8,15,16,17,18,19,20,21,22,23,24,25,26,27,28,29,30,31,32,33,34,35,36,37,38,39,40,41,42,43,44,45,46,47,48,49,50,51,52,53,54,55,56,57,58,59,60,61,62,63,64,65,66,67,68,69,70,71,72,73,74] (by simp[mB]<;>rfl) (σ:=Nat×Int) (fun p=>p.1≤l.length∧(∀k (h:k<l.length),k<p.1→okR es ch l[k]=true)∧((l.drop p.1).all (okR es ch)&&B0)=E∧p.2+jN (l.drop p.1)=jN l∧0≤p.2∧p.2≤p.1*1000000000000) (fun p=>l.length-p.1) (fun p=>[(8,.int .i64 p.1),(7,.int .i64 p.2)]) (fun _=>[B.cells [.lst 1 f (ws.map aW),.lst 1 g (es.map (Ln false))],B.cells [.lst 1 fc (ch.map eN),.lst 1 fx (ex.map eN),.int .i64 b]]) (0,0) ⟨by simp,fun k h h2=>by simp at h2,by rw[List.drop_zero];exact hE.symm,by simp,by simp,by simp⟩ (by simp) rfl (by simp) ?_);rintro⟨i,sm⟩ ⟨hi,hk,hy,hs,hs0,hs1⟩ N Q hN hQ;simp only at hi hk hy hs hs0 hs1 hN;by_cases hb:i<l.length
  ·rw[List.drop_eq_getElem_cons hb,List.all_cons]at hy;rw[List.drop_eq_getElem_cons hb,jN]at hs;obtain⟨x,hxe⟩:∃x,x=l[i]:=⟨_,rfl⟩;rw[←hxe]at hy hs;have hxl:=hxe.symm;obtain⟨xe,xa⟩:=x;have hok:okR es ch ⟨xe,xa⟩=(decide (0≤xe)&&decide (xe<es.length)&&decide (1≤xa)&&decide (xa≤1000000000000)&&!gq (es.getD xe.toNat []) ch):=rfl;rw[hok]at hy;simp only at hs;by_cases c1:xe<0
   ·rw[decide_eq_false (by omega)]at hy;simp only[Bool.false_and]at hy;refine wx ?_;simp -implicitDefEqProofs -dsimp[hb,hxl,c1,L1,LLn,Ln,LSh,aQ];refine .inr ⟨aI (by kernel_rfl),?_⟩;refine hQ _ _ _ ?_;simp -implicitDefEqProofs -dsimp[L1,LLn,Ln,LSh,aQ];exact hy.symm
   by_cases c2:(es.length:Int)≤xe
   ·rw[decide_eq_false (show ¬xe<es.length by omega)]at hy;simp only[Bool.and_false,Bool.false_and]at hy;refine wx ?_;simp -implicitDefEqProofs -dsimp[hb,hxl,c1,c2,L1,LLn,Ln,LSh,aQ];refine .inr ⟨aI (by kernel_rfl),?_⟩;refine hQ _ _ _ ?_;simp -implicitDefEqProofs -dsimp[L1,LLn,Ln,LSh,aQ];exact hy.symm
   by_cases c3:xa<1
   ·rw[decide_eq_false (show ¬1≤xa by omega)]at hy;simp only[Bool.and_false,Bool.false_and]at hy;refine wx ?_;simp -implicitDefEqProofs -dsimp[hb,hxl,c1,c2,c3,L1,LLn,Ln,LSh,aQ];refine .inr ⟨aI (by kernel_rfl),?_⟩;refine hQ _ _ _ ?_;simp -implicitDefEqProofs -dsimp[L1,LLn,Ln,LSh,aQ];exact hy.symm
   by_cases c4:1000000000000<xa
   ·rw[decide_eq_false (show ¬xa≤1000000000000 by omega)]at hy;simp only[Bool.and_false,Bool.false_and]at hy;refine wx ?_;simp -implicitDefEqProofs -dsimp[hb,hxl,c1,c2,c3,c4,L1,LLn,Ln,LSh,aQ];refine .inr ⟨aI (by kernel_rfl),?_⟩;refine hQ _ _ _ ?_;simp -implicitDefEqProofs -dsimp[L1,LLn,Ln,LSh,aQ];exact hy.symm
   obtain⟨j,rfl⟩:∃j:Nat,xe=j:=⟨xe.toNat,by omega⟩
   have hj:j<es.length:=by omega
   rw[decide_eq_true (show(0:Int)≤j by omega),decide_eq_true (show(j:Int)<es.length by omega),decide_eq_true (show 1≤xa by omega),decide_eq_true (show xa≤1000000000000 by omega),Int.toNat_natCast,eD hj]at hy hok;simp only[Bool.true_and]at hy hok;have hle:=hl es[j] (List.getElem_mem hj);obtain⟨e,he⟩:∃e,e=es[j]:=⟨_,rfl⟩;rw[←he]at hy hle hok;have hej:=he.symm;have cm:=meets39 e ch false fc hle hc;simp only[Ln]at cm
   cases hm:gq e ch with
   | true =>
    rw[hm]at cm hy;simp only[Bool.not_true,Bool.false_and]at hy;refine wx ?_;simp -implicitDefEqProofs -dsimp[hb,hxl,c1,hj,hej,c3,c4,show ¬(es.length:Int)≤j by omega,L1,LLn,Ln,LSh,aQ];refine .inr ⟨aI (by kernel_rfl),?_⟩;refine ae _ (aF (cm) (by simp)) ?_;simp -implicitDefEqProofs -dsimp[L1,LLn,Ln,LSh,aQ];refine hQ _ _ _ ?_;simp -implicitDefEqProofs -dsimp[L1,LLn,Ln,LSh,aQ];exact hy.symm
   | false =>
    rw[hm]at cm hy hok;simp only[Bool.not_false,Bool.true_and]at hy hok;have hw1:IntKind.i64.wrap (sm+xa)=sm+xa:=wrap64 (by omega) (by omega);refine wx ?_;simp -implicitDefEqProofs -dsimp[hb,hxl,c1,hj,hej,c3,c4,show ¬(es.length:Int)≤j by omega,L1,LLn,Ln,LSh,aQ];refine .inr ⟨aI (by kernel_rfl),?_⟩;refine ae _ (aF (cm) (by simp)) ?_;simp -implicitDefEqProofs -dsimp[hb,hxl,hw1,aJ i (by omega),L1,LLn,Ln,LSh,aQ];refine hN (i+1,sm+xa) _ _ ⟨by simp only;omega,fun k h h2=>?_,hy,by simp only;omega,by simp only;omega,by simp only;omega⟩ (by simp only;omega) (by simp) ⟨[],rfl⟩ (by simp) (by simp)
    rcases Nat.lt_or_ge k i with h3 | h3
    ·exact hk k h h3
    ·have:k=i:=by simp only at h2;omega
     subst this;rw[hxl];exact hok
  ·rw[List.drop_of_length_le (by omega),List.all_nil,Bool.true_and]at hy;rw[List.drop_of_length_le (by omega),jN]at hs
   have hk2:∀k (h:k<l.length),okR es ch l[k]=true:=fun k h=>hk k h (by omega)
   have hsm:sm=jN l:=by omega
   refine wx ?_;simp -implicitDefEqProofs -dsimp[hb,L1,LLn,Ln,LSh,aQ];refine hQ _ _ _ ?_;simp -implicitDefEqProofs -dsimp[L1,LLn,Ln,LSh,aQ];rw[hB0,List.range_eq_range']at hy;refine aK (W_loopM 120 [6,9,10,11,75,76,77,78,79,80,81,82,83,84,85,86,87,88,89,90,91,92,93,94,95,96,97,98,99,100,101,102,103,104,105,106,107,108,109,110,111,112,113,114,115,116,117,118,119] (by simp[mB]<;>rfl) (σ:=Nat) (fun v=>v≤ws.length∧((List.range' v (ws.length-v)).all (fun v=>decide (ldR es v l≤ws.getD v 0)||ex.contains v)&&decide (b≤jN l))=E) (fun v=>ws.length-v) (fun v=>[(9,.int .i64 v)]) (fun _=>[B.cells [.lst 1 f (ws.map aW),.lst 1 g (es.map (Ln false))],B.cells [.lst 1 fc (ch.map eN),.lst 1 fx (ex.map eN),.int .i64 b]]) 0 ⟨by omega,by rw[Nat.sub_zero];exact hy⟩ (by simp) rfl (by simp) ?_);rintro v ⟨hv,hz⟩ N2 Q2 hN2 hQ2;by_cases hvb:v<ws.length
   ·rw[show ws.length-v=(ws.length-(v+1))+1 by omega,List.range'_succ,List.all_cons]at hz;refine wx ?_;simp -implicitDefEqProofs -dsimp[hvb,L1,LLn,Ln,LSh,aQ];refine aK (W_loopM 106 [10,11,82,83,84,85,86,87,88,89,90,91,92,93,94,95,96,97,98,99,100,101,102,103,104,105] (by simp[mB]<;>rfl) (σ:=Nat×Int) (fun p=>p.1≤l.length∧p.2+ldR es v (l.drop p.1)=ldR es v l∧0≤p.2∧p.2≤p.1*1000000000000) (fun p=>l.length-p.1) (fun p=>[(11,.int .i64 p.1),(10,.int .i64 p.2)]) (fun _=>[B.cells [.lst 1 f (ws.map aW),.lst 1 g (es.map (Ln false))],B.cells [.lst 1 fc (ch.map eN),.lst 1 fx (ex.map eN),.int .i64 b]]) (0,0) ⟨by simp,by simp,by simp,by simp⟩ (by simp) rfl (by simp) ?_);rintro⟨i2,ld⟩ ⟨hi2,hd,hd0,hd1⟩ N3 Q3 hN3 hQ3;simp only at hi2 hd hd0 hd1 hN3;by_cases hb2:i2<l.length
    ·rw[List.drop_eq_getElem_cons hb2,ldR]at hd;have hok:=hk2 i2 hb2;obtain⟨x,hxe⟩:∃x,x=l[i2]:=⟨_,rfl⟩;rw[←hxe]at hd hok;have hxl:=hxe.symm;obtain⟨j,hj1,hj,ha1,ha2,_⟩:=okR_parts hok;obtain⟨xe,xa⟩:=x;simp only at hj1 ha1 ha2 hd;subst hj1;rw[Int.toNat_natCast,eD hj]at hd;have hle:=hl es[j] (List.getElem_mem hj);obtain⟨e,he⟩:∃e,e=es[j]:=⟨_,rfl⟩;rw[←he]at hd hle;have hej:=he.symm;have cm:=has39 e v false hle;simp only[Ln]at cm;by_cases hm:v∈e
     ·rw[List.contains_iff_mem.2 hm]at cm;rw[if_pos hm]at hd;have hw1:IntKind.i64.wrap (ld+xa)=ld+xa:=wrap64 (by omega) (by omega);refine wx ?_;simp -implicitDefEqProofs -dsimp[hb2,hxl,hj,hej,L1,LLn,Ln,LSh,aQ];refine .inr ⟨aI (by kernel_rfl),?_⟩;refine ae _ (aF (cm) (by simp)) ?_;simp -implicitDefEqProofs -dsimp[hb2,hxl,hw1,aJ i2 (by omega),L1,LLn,Ln,LSh,aQ];refine hN3 (i2+1,ld+xa) _ _ ⟨by simp only;omega,by simp only;omega,by simp only;omega,by simp only;omega⟩ (by simp only;omega) (by simp) ⟨[],rfl⟩ (by simp) (by simp)
     ·rw[show e.contains v=false by simpa using hm]at cm;rw[if_neg hm]at hd;refine wx ?_;simp -implicitDefEqProofs -dsimp[hb2,hxl,hj,hej,L1,LLn,Ln,LSh,aQ];refine .inr ⟨aI (by kernel_rfl),?_⟩;refine ae _ (aF (cm) (by simp)) ?_;simp -implicitDefEqProofs -dsimp[aJ i2 (by omega),L1,LLn,Ln,LSh,aQ];refine hN3 (i2+1,ld) _ _ ⟨by simp only;omega,by simp only;omega,by simp only;omega,by simp only;omega⟩ (by simp only;omega) (by simp) ⟨[],rfl⟩ (by simp) (by simp)
    ·rw[List.drop_of_length_le (by omega),ldR]at hd
     have hld:ldR es v l=ld:=by omega
     rw[hld,ah _ _ hvb]at hz;obtain⟨w,hww⟩:∃w,w=ws[v]:=⟨_,rfl⟩;rw[←hww]at hz;have hwl:=hww.symm;have cm:=has39 ex v fx hx;simp only[Ln]at cm;by_cases hlt:w<ld
     ·rw[decide_eq_false (by omega),Bool.false_or]at hz
      cases hm:ex.contains v with
      | true =>
       rw[hm]at cm hz;refine wx ?_;simp -implicitDefEqProofs -dsimp[hb2,L1,LLn,Ln,LSh,aQ];refine hQ3 _ _ _ ?_;simp -implicitDefEqProofs -dsimp[hvb,hwl,hlt,aW,L1,LLn,Ln,LSh,aQ];refine(aF (cm) (by simp)).mono ?_;rintro r H' ⟨rfl,rfl⟩;simp -implicitDefEqProofs -dsimp[aJ v (by omega),L1,LLn,Ln,LSh,aQ];refine hN2 (v+1) _ _ ⟨by omega,by simpa using hz⟩ (by omega) (by simp) ⟨[],rfl⟩ (by simp) (by simp)
      | false =>
       rw[hm]at cm hz;refine wx ?_;simp -implicitDefEqProofs -dsimp[hb2,L1,LLn,Ln,LSh,aQ];refine hQ3 _ _ _ ?_;simp -implicitDefEqProofs -dsimp[hvb,hwl,hlt,aW,L1,LLn,Ln,LSh,aQ];refine(aF (cm) (by simp)).mono ?_;rintro r H' ⟨rfl,rfl⟩;simp -implicitDefEqProofs -dsimp[L1,LLn,Ln,LSh,aQ];refine hQ2 _ _ _ ?_;simp -implicitDefEqProofs -dsimp[L1,LLn,Ln,LSh,aQ];simpa using hz.symm
     ·rw[decide_eq_true (by omega),Bool.true_or]at hz;refine wx ?_;simp -implicitDefEqProofs -dsimp[hb2,L1,LLn,Ln,LSh,aQ];refine hQ3 _ _ _ ?_;simp -implicitDefEqProofs -dsimp[hvb,hwl,hlt,aW,aJ v (by omega),L1,LLn,Ln,LSh,aQ];refine hN2 (v+1) _ _ ⟨by omega,by simpa using hz⟩ (by omega) (by simp) ⟨[],rfl⟩ (by simp) (by simp)
   ·rw[show ws.length-v=0 by omega,List.range'_zero,List.all_nil,Bool.true_and,←hsm]at hz;by_cases hq:b≤sm
    ·rw[decide_eq_true hq]at hz;refine wx ?_;simp -implicitDefEqProofs -dsimp[hvb,L1,LLn,Ln,LSh,aQ];refine hQ2 _ _ _ ?_;simp -implicitDefEqProofs -dsimp[hq,L1,LLn,Ln,LSh,aQ];exact hz.symm
    ·rw[decide_eq_false hq]at hz;refine wx ?_;simp -implicitDefEqProofs -dsimp[hvb,L1,LLn,Ln,LSh,aQ];refine hQ2 _ _ _ ?_;simp -implicitDefEqProofs -dsimp[hq,L1,LLn,Ln,LSh,aQ];exact hz.symm
inductive ExpA (H:List B):V→V→Prop
 | one (v v':V) (h:Exp H v v'):ExpA H v v'
 | agg (cs ds:List V) (hl:cs.length=ds.length) (h1:∀d∈ds,d.one=true) (h:∀(i:Nat) c d,cs[i]?=some c→ds[i]?=some d→∃m,Exp H c m∧Le m d):ExpA H (.agg cs) (.agg ds)
theorem rel_expA{s:St}(hg:AM.Good s){open_:Nat→Prop}{v v':V}{u:Value}(h:Rel s v u)(he:ExpA s.H v v')(ho:∀k,open_ k):Rel (base (hold s open_) s.w) v' u:=by
 cases he with
 | one _ _ h1=>exact h.exp hg h1 (fun _ _ _ _ _=>ho _)
 | agg cs ds hl h1 h2 =>
  cases h with
  | agg _ us hu h3 h4 =>
   refine .agg ds us (by omega) h1 (fun i d u hd hu=>?_);have hc:cs[i]?=some (cs[i]'(by have:=aE hd;omega)):=List.getElem?_eq_getElem _;obtain⟨m,hm,hl⟩:=h2 i _ d hc hd;exact hl.rel ((h4 i _ u hc hu).exp hg hm (fun _ _ _ _ _=>ho _))
theorem conH_of_conPA{P:Program}{f:FuncId}{args args':List V}{K:V→Prop}{H:List B}(h:aR P f args' K)(hl:args.length=args'.length)(he:∀(i:Nat) a a',args[i]?=some a→args'[i]?=some a'→ExpA H a a')(hs:∀r,K r→Scalar r):bA P f args H fun r H'=>H'=H∧AM.Pure r∧K r:=by
 refine⟨h.1,fun s vals hH hg hsz hrel=>?_⟩;obtain⟨rfl,hZ⟩:=hH
 let op:Nat→Prop:=fun _=>True
 have hFl:∀b,hold s op b→b<s.w.heap.size:=by
  rintro b (h | ⟨k,hk,rfl,_⟩)
  ·exact hg.fl b h
  ·exact(hg.lt k hk).1
 refine(h.2 (hold s op) s.w vals (hZ.hold op) hFl (by omega) (fun i a' u ha' hu=>?_)).mono fun e w' ⟨u,r,a1,a2,a3,a4,a5⟩=>?_
 ·have hi:i<args.length:=by have:=aE ha';omega
  have ha:args[i]?=some args[i]:=List.getElem?_eq_getElem hi;exact rel_expA hg (hrel i _ u ha hu) (he i _ a' ha ha') (fun _=>trivial)
 ·obtain⟨g1,g2⟩:=fZ hg (w:=w') a4.os a4.tape a4.output a4.size a4.block;exact⟨u,s.at w',r,a1,rfl,g1,g2,a3.scalar (hs r a5),rfl,a2,a5⟩
theorem callXA{P:Program}{f:FuncId}{args args':List V}{H:List B}{v:V}(h:aR P f args' fun r=>r=v)(hl:args.length=args'.length)(he:∀(i:Nat) a a',args[i]?=some a→args'[i]?=some a'→ExpA H a a')(hs:Scalar v):
  aT P (.fn f []) args H fun r H'=>r=v∧H'=H:=by
 simp only[aT,List.append_nil]
 exact(conH_of_conPA h hl he (fun r hr=>by subst hr;exact hs)).mono fun r H' ⟨h1,_,h3⟩=>⟨h3,h1⟩
theorem oT(ws:List Int)(es:List (List Nat)):∀(k:Nat) (ch ex:List Nat) (b:Int) (l:List Nde),-1≤cH ws es k ch ex b l∧cH ws es k ch ex b l≤l.length
 | 0,_,_,_,l=>by simp[cH]
 | k+1,_,_,_,[]=>by simp[cH]
 | k+1,ch,ex,b,x::r=>by
  rw[cH];split
  ·split
   ·simp;omega
   ·simp;omega
  ·split
   ·simp;omega
   ·split
    ·simp;omega
    ·have h1:=oT ws es k (ch++[x.v.toNat]) ex (b-ws.getD x.v.toNat 0) r;rename_i h5;obtain⟨j,hj⟩:∃j:Nat,cH ws es k (ch++[x.v.toNat]) ex (b-ws.getD x.v.toNat 0) r=j:=⟨_,(Int.toNat_of_nonneg (by omega)).symm⟩;rw[hj,Int.toNat_natCast];rw[hj]at h1;have h2:=oT ws es k ch (ex++[x.v.toNat]) b (r.drop j);rw[List.length_drop]at h2;split
     ·simp;omega
     ·simp only[List.length_cons];omega
theorem part_nil(ws:List Int)(es:List (List Nat))(k:Nat)(ch ex:List Nat)(b:Int):cH ws es k ch ex b [] = -1:=by cases k<;>rfl
theorem part39{ws:List Int}{es:List (List Nat)}(hb:HsB ws es)(f g fl:Bool)(k:Nat):∀(l:List Nde) (ch ex:List Nat) (fc fx:Bool) (b:Int),l.length≤k→ch.length+ex.length+l.length≤1000000→-9000000000000000000+1000000*(l.length:Int)≤b→b≤9000000000000000000 →
  aR Tryz.prog 115 [ab f g ws es,dL fc fx ch ex b,LNd fl l] fun r=>r = .int .i64 (cH ws es k ch ex b l):=by
 have hn:=hb.n
 have hne:es.length≤1000000:=by have:=hb.ne;omega
 have hel:∀e∈es,e.length≤1000000:=fun e he=>by have:=hb.ed.len e he;omega
 induction k with
 | zero =>
  intro l ch ex fc fx b hk hm hb1 hb2;have:l=[]:=List.length_eq_zero_iff.1 (by omega);subst this;rw[part_nil];refine aC (aD tok Tryz.func115 rfl rfl ?_);refine wx ?_;simp -implicitDefEqProofs -dsimp[Tryz.f115,List.replicate,ab,dL,LNd,L1,LLn,Ln]
 | succ k ih =>
  intro l ch ex fc fx b hk hm hb1 hb2
  cases l with
  | nil =>
   rw[part_nil];refine aC (aD tok Tryz.func115 rfl rfl ?_);refine wx ?_;simp -implicitDefEqProofs -dsimp[Tryz.f115,List.replicate,ab,dL,LNd,L1,LLn,Ln]
  | cons x r =>
   simp only[List.length_cons]at hk hb1 hm;obtain⟨xv,xl⟩:=x;obtain⟨P,hP⟩:∃P,P=cH ws es (k+1) ch ex b (⟨xv,xl⟩::r):=⟨_,rfl⟩;rw[←hP];rw[cH]at hP;simp only at hP
   have hrl:¬((r.length:Int)+1=0):=by omega
   have cc:=closed39 ws es f g fc fx ch ex b hne hel (by omega);have cr:=right39 ws es f g fc fx false ch ex b xl (by omega) hne hel (by omega) (by omega);simp only[ab,dL,L1,LLn,Ln,LSh]at cc cr;by_cases c1:xv = -1
   ·rw[if_pos c1]at hP;subst c1
    cases xl with
    | nil =>
     rw[if_pos rfl]at hP;by_cases c2:b≤0
     ·rw[decide_eq_true c2,Bool.true_or,if_pos rfl]at hP;subst hP;refine aC (aD tok Tryz.func115 rfl rfl ?_);refine wx ?_;simp -implicitDefEqProofs -dsimp[Tryz.f115,List.replicate,ab,dL,LNd,hrl,c2,L1,LLn,Ln,LSh,aa,aQ];exact .inr (aI (by kernel_rfl))
     ·rw[decide_eq_false c2,Bool.false_or]at hP
      cases hc:fV es ex with
      | true =>
       rw[hc]at hP cc;rw[if_pos rfl]at hP;subst hP;refine aC (aD tok Tryz.func115 rfl rfl ?_);refine wx ?_;simp -implicitDefEqProofs -dsimp[Tryz.f115,List.replicate,ab,dL,LNd,hrl,c2,L1,LLn,Ln,LSh,aa,aQ];refine .inr ⟨aI (by kernel_rfl),?_⟩;refine ae _ (aF (cc) (by simp)) ?_;simp -implicitDefEqProofs -dsimp[L1,LLn,Ln,LSh,aa,aQ]
      | false =>
       rw[hc]at hP cc;rw[if_neg (by simp)]at hP;subst hP;refine aC (aD tok Tryz.func115 rfl rfl ?_);refine wx ?_;simp -implicitDefEqProofs -dsimp[Tryz.f115,List.replicate,ab,dL,LNd,hrl,c2,L1,LLn,Ln,LSh,aa,aQ];refine .inr ⟨aI (by kernel_rfl),?_⟩;refine ae _ (aF (cc) (by simp)) ?_;simp -implicitDefEqProofs -dsimp[L1,LLn,Ln,LSh,aa,aQ]
    | cons y ys =>
     have hyl:¬((ys.length:Int)+1=0):=by omega
     have hyl2:(0:Int)<(ys.length:Int)+1:=by omega
     rw[if_neg (List.cons_ne_nil y ys)]at hP
     cases hc:il ws es ch ex b (y::ys) with
     | true =>
      rw[hc]at hP cr;rw[if_pos rfl]at hP;subst hP;refine aC (aD tok Tryz.func115 rfl rfl ?_);refine wx ?_;simp -implicitDefEqProofs -dsimp[Tryz.f115,List.replicate,ab,dL,LNd,hrl,hyl,hyl2,L1,LLn,Ln,LSh,aa,aQ];refine .inr ⟨aI (by kernel_rfl),?_⟩;simp only[List.map_cons,aQ]at cr;refine ae _ (aF (cr) (by simp)) ?_;simp -implicitDefEqProofs -dsimp[L1,LLn,Ln,LSh,aa,aQ]
     | false =>
      rw[hc]at hP cr;rw[if_neg (by simp)]at hP;subst hP;refine aC (aD tok Tryz.func115 rfl rfl ?_);refine wx ?_;simp -implicitDefEqProofs -dsimp[Tryz.f115,List.replicate,ab,dL,LNd,hrl,hyl,hyl2,L1,LLn,Ln,LSh,aa,aQ];refine .inr ⟨aI (by kernel_rfl),?_⟩;simp only[List.map_cons,aQ]at cr;refine ae _ (aF (cr) (by simp)) ?_;simp -implicitDefEqProofs -dsimp[L1,LLn,Ln,LSh,aa,aQ]
   ·rw[if_neg c1]at hP;by_cases c2:xl=[]
    ·subst c2;by_cases c3:xv<0
     ·rw[if_pos (.inr (.inl c3))]at hP;subst hP;refine aC (aD tok Tryz.func115 rfl rfl ?_);refine wx ?_;simp -implicitDefEqProofs -dsimp[Tryz.f115,List.replicate,ab,dL,LNd,hrl,c1,c3,L1,LLn,Ln,LSh,aa,aQ]
     by_cases c4:(ws.length:Int)≤xv
     ·rw[if_pos (.inr (.inr (.inl c4)))]at hP;subst hP;refine aC (aD tok Tryz.func115 rfl rfl ?_);refine wx ?_;simp -implicitDefEqProofs -dsimp[Tryz.f115,List.replicate,ab,dL,LNd,hrl,c1,c3,c4,L1,LLn,Ln,LSh,aa,aQ]
     obtain⟨v,rfl⟩:∃v:Nat,xv=v:=⟨xv.toNat,by omega⟩;rw[Int.toNat_natCast]at hP
     have hvw:v<ws.length:=by omega
     have h1:=has39 ch v fc (by omega);have h2:=has39 ex v fx (by omega);simp only[Ln]at h1 h2;by_cases c5:v∈ch
     ·rw[if_pos (.inr (.inr (.inr (.inl c5))))]at hP;rw[List.contains_iff_mem.2 c5]at h1;subst hP;refine aC (aD tok Tryz.func115 rfl rfl ?_);refine wx ?_;simp -implicitDefEqProofs -dsimp[Tryz.f115,List.replicate,ab,dL,LNd,hrl,c1,c3,c4,L1,LLn,Ln,LSh,aa,aQ];refine(aF (h1) (by simp)).mono ?_;rintro r H' ⟨rfl,rfl⟩;simp -implicitDefEqProofs -dsimp[L1,LLn,Ln,LSh,aa,aQ]
     rw[show ch.contains v=false by simpa using c5]at h1;by_cases c6:v∈ex
     ·rw[if_pos (.inr (.inr (.inr (.inr c6))))]at hP;rw[List.contains_iff_mem.2 c6]at h2;subst hP;refine aC (aD tok Tryz.func115 rfl rfl ?_);refine wx ?_;simp -implicitDefEqProofs -dsimp[Tryz.f115,List.replicate,ab,dL,LNd,hrl,c1,c3,c4,L1,LLn,Ln,LSh,aa,aQ];refine(aF (h1) (by simp)).mono ?_;rintro r H' ⟨rfl,rfl⟩;simp -implicitDefEqProofs -dsimp[L1,LLn,Ln,LSh,aa,aQ];refine(aF (h2) (by simp)).mono ?_;rintro r H' ⟨rfl,rfl⟩;simp -implicitDefEqProofs -dsimp[L1,LLn,Ln,LSh,aa,aQ]
     rw[show ex.contains v=false by simpa using c6]at h2;rw[if_neg (by rintro(h | h | h | h | h)<;>first | omega | exact h rfl | exact c5 h | exact c6 h)]at hP;have hwl:=(ah ws 0 hvw).symm;have hwb:=hb.w v hvw;obtain⟨w,hw⟩:∃w,w=ws.getD v 0:=⟨_,rfl⟩;rw[←hw]at hwl hwb hP;have hbw:IntKind.i64.wrap (b-w)=b-w:=wrap64 (by omega) (by omega);refine aC (aD tok Tryz.func115 rfl rfl ?_);refine wx ?_;simp -implicitDefEqProofs -dsimp[Tryz.f115,List.replicate,ab,dL,LNd,hrl,c1,c3,c4,L1,LLn,Ln,LSh,aa,aQ];refine(aF (h1) (by simp)).mono ?_;rintro r H' ⟨rfl,rfl⟩;simp -implicitDefEqProofs -dsimp[L1,LLn,Ln,LSh,aa,aQ];refine(aF (h2) (by simp)).mono ?_;rintro r H' ⟨rfl,rfl⟩;simp -implicitDefEqProofs -dsimp[L1,LLn,Ln,LSh,aa,aQ];have i1:=ih r (ch++[v]) ex false fx (b-w) (by omega) (by simp;omega) (by omega) (by omega);obtain⟨p,hp⟩:∃p,p=cH ws es k (ch++[v]) ex (b-w) r:=⟨_,rfl⟩;rw[←hp]at i1 hP;have hpl:=oT ws es k (ch++[v]) ex (b-w) r;rw[←hp]at hpl;simp only[ab,dL,L1,LLn,Ln,LNd]at i1;have htk:List.take r.length (r.map aa)=r.map aa:=List.take_of_length_le (by simp)
     have k1:∀(H:List B) (kk:Nat),H[kk]?=some (.buf 3 1 (ch.map eN++[.int .i64 (v:Int)]) false)→aT Tryz.prog (.fn 115 []) [.agg [.lst 1 f (ws.map aW),.lst 1 g (es.map (Ln false))],.agg [.buf kk 0 (ch.length+1) (ch.length+1),.lst 1 fx (ex.map eN),.int .i64 (b-w)],.lst 2 fl (r.map aa)] H fun r' H'=>r' = .int .i64 p∧H'=H:=fun H kk hk=>by
      refine callXA i1 rfl (fun i a a' h1 h2=>?_) (.int _ _)
      match i with
      | 0=>simp at h1 h2;subst h1;subst h2;exact .one _ _ (.pure _ (by simp))
      | 1 =>
       simp only[List.getElem?_cons_succ,List.getElem?_cons_zero,Option.some.injEq]at h1 h2;subst h1;subst h2;refine .agg _ _ rfl (by simp[V.one]) (fun i c d h3 h4=>?_)
       match i with
       | 0 =>
        simp only[List.getElem?_cons_zero,Option.some.injEq]at h3 h4;subst h3;subst h4;refine⟨_,dK hk (by simp) (by simp[or_imp,forall_and]),?_⟩;rw[List.map_append];exact .refl _
       | 1=>simp at h3 h4;subst h3;subst h4;exact⟨_,.pure _ (by simp),.refl _⟩
       | 2=>simp at h3 h4;subst h3;subst h4;exact⟨_,.pure _ (by simp),.refl _⟩
       | n+3=>simp at h3
      | 2=>simp at h1 h2;subst h1;subst h2;exact .one _ _ (.pure _ (by simp))
      | n+3=>simp at h1
     have hpd:∀(j:Nat) (x:V),x∈List.drop j (r.map aa)→AM.Pure x:=fun j x hx=>by
      obtain⟨y,_,rfl⟩:=List.mem_map.1 (List.mem_of_mem_drop hx);exact encNd_pure y
     have k2:∀(j:Nat),p=j→∀(H:List B) (kk:Nat),H[kk]?=some (.buf 3 1 (ex.map eN++[.int .i64 (v:Int)]) false)→aT Tryz.prog (.fn 115 []) [.agg [.lst 1 f (ws.map aW),.lst 1 g (es.map (Ln false))],.agg [.lst 1 fc (ch.map eN),.buf kk 0 (ex.length+1) (ex.length+1),.int .i64 b],.lst 2 fl (List.drop j (r.map aa))] H fun r' H'=>r' = .int .i64 (cH ws es k ch (ex++[v]) b (r.drop j))∧H'=H:=fun j hj H kk hk=>by
      have i2:=ih (r.drop j) ch (ex++[v]) fc false b (by rw[List.length_drop];omega) (by rw[List.length_drop];simp;omega) (by rw[List.length_drop];omega) (by omega);simp only[ab,dL,L1,LLn,Ln,LNd]at i2;rw[List.map_drop]at i2;refine callXA i2 rfl (fun i a a' h1 h2=>?_) (.int _ _)
      match i with
      | 0=>simp at h1 h2;subst h1;subst h2;exact .one _ _ (.pure _ (by simp))
      | 1 =>
       simp only[List.getElem?_cons_succ,List.getElem?_cons_zero,Option.some.injEq]at h1 h2;subst h1;subst h2;refine .agg _ _ rfl (by simp[V.one]) (fun i c d h3 h4=>?_)
       match i with
       | 0=>simp at h3 h4;subst h3;subst h4;exact⟨_,.pure _ (by simp),.refl _⟩
       | 1 =>
        simp only[List.getElem?_cons_succ,List.getElem?_cons_zero,Option.some.injEq]at h3 h4;subst h3;subst h4;refine⟨_,dK hk (by simp) (by simp[or_imp,forall_and]),?_⟩;rw[List.map_append];exact .refl _
       | 2=>simp at h3 h4;subst h3;subst h4;exact⟨_,.pure _ (by simp),.refl _⟩
       | n+3=>simp at h3
      | 2=>simp only[List.getElem?_cons_succ,List.getElem?_cons_zero,Option.some.injEq]at h1 h2;subst h1;subst h2;exact .one _ _ (.pure _ (.lst _ _ _ (hpd j)))
      | n+3=>simp at h1
     obtain⟨G,hG⟩:∃G:Nat→Int,G=fun j=>cH ws es k ch (ex++[v]) b (r.drop j):=⟨_,rfl⟩
     have hGle:∀j,-1≤G j∧G j≤r.length:=fun j=>by
      have:=oT ws es k ch (ex++[v]) b (r.drop j);rw[List.length_drop]at this;rw[hG];exact⟨this.1,by have:=this.2;simp only;omega⟩
     have hGd:∀j,cH ws es k ch (ex++[v]) b (r.drop j)=G j:=fun j=>by rw[hG]
     simp only[hGd]at k2 hP;clear hG hGd;by_cases d1:ch=[]
     ·subst d1;refine aK (am tok mixed [4,7] [(0,[1,2]),(5,[0]),(6,[0]),(8,[0,1]),(9,[0,1]),(10,[0,1]),(11,[0,1]),(12,[0,1]),(13,[0,1]),(14,[0,1]),(15,[0,1]),(16,[0,1]),(17,[0,1]),(19,[0,1]),(20,[0,1])] [(.int .i64 p,[])] (by kernel_rfl) fun C K hC hK=>?_);simp -implicitDefEqProofs [hvw,hwl,hbw,aW,eN,htk,L1,LLn,Ln,LSh,aa,aQ];refine⟨hC _ _ _ _ (k1 _ _ rfl),hK _ _ ?_⟩;clear hC hK C K;by_cases hp0:p<0
      ·rw[if_pos hp0]at hP;subst hP;simp -implicitDefEqProofs -dsimp[hp0,L1,LLn,Ln,LSh,aa,aQ]
      ·rw[if_neg hp0]at hP;obtain⟨j,hj⟩:∃j:Nat,p=j:=⟨p.toNat,by omega⟩;have k3:=k2 j hj;rw[hj,Int.toNat_natCast]at hP;subst hj;obtain⟨p2,hp2⟩:∃p2,p2=G j:=⟨_,rfl⟩;have hpl2:=hGle j;rw[←hp2]at k3 hP hpl2
       have hjl:j≤r.length:=by omega
       have hw1:IntKind.i64.wrap (1+(j:Int))=(j:Int)+1:=by rw[wrap64 (by omega) (by omega)];omega
       simp -implicitDefEqProofs -dsimp[hp0,L1,LLn,Ln,LSh,aa,aQ];by_cases d2:ex=[]
       ·subst d2;refine aK (am tok mixed [6,9] [(0,[1,2]),(1,[1,2]),(2,[1,2]),(7,[0]),(8,[0]),(10,[0,1]),(11,[0,1]),(13,[0,1]),(14,[0,1]),(15,[0,1]),(16,[0,1])] [(.int .i64 p2,[])] (by kernel_rfl) fun C K hC hK=>?_);simp -implicitDefEqProofs [hw1,htk,eN,hjl,show(0:Int)≤(j:Int)+1 by omega,L1,LLn,Ln,LSh,aa,aQ];refine⟨hC _ _ _ _ (k3 _ _ rfl),hK _ _ ?_⟩;clear hC hK C K;by_cases hq0:p2<0
        ·rw[if_pos hq0]at hP;subst hP;simp -implicitDefEqProofs -dsimp[hq0,L1,LLn,Ln,LSh,aa,aQ]
        ·rw[if_neg hq0]at hP;have hw2:IntKind.i64.wrap (1+(j:Int))=1+(j:Int):=wrap64 (by omega) (by omega);have hw3:IntKind.i64.wrap (1+(j:Int)+p2)=1+(j:Int)+p2:=wrap64 (by omega) (by omega);subst hP;simp -implicitDefEqProofs -dsimp[hq0,hw2,hw3,L1,LLn,Ln,LSh,aa,aQ]
       ·refine aK (am tok mixed [6,9] [(0,[1,2]),(1,[1,2]),(2,[1,2]),(7,[0]),(8,[0]),(10,[0,1]),(11,[0,1]),(13,[0,1]),(14,[0,1]),(15,[0,1]),(16,[0,1])] [(.int .i64 p2,[])] (by kernel_rfl) fun C K hC hK=>?_);simp -implicitDefEqProofs [d2,hw1,htk,eN,hjl,show(0:Int)≤(j:Int)+1 by omega,show ex.length≤9223372036854775807 by omega,show ex.length*8≤140737488355328 by omega,show ex.length+1≤9223372036854775807 by omega,show(ex.length+1)*8≤140737488355328 by omega,L1,LLn,Ln,LSh,aa,aQ];refine⟨hC _ _ _ _ (k3 _ _ rfl),hK _ _ ?_⟩;clear hC hK C K;by_cases hq0:p2<0
        ·rw[if_pos hq0]at hP;subst hP;simp -implicitDefEqProofs -dsimp[hq0,L1,LLn,Ln,LSh,aa,aQ]
        ·rw[if_neg hq0]at hP;have hw2:IntKind.i64.wrap (1+(j:Int))=1+(j:Int):=wrap64 (by omega) (by omega);have hw3:IntKind.i64.wrap (1+(j:Int)+p2)=1+(j:Int)+p2:=wrap64 (by omega) (by omega);subst hP;simp -implicitDefEqProofs -dsimp[hq0,hw2,hw3,L1,LLn,Ln,LSh,aa,aQ]
     ·refine aK (am tok mixed [4,7] [(0,[1,2]),(5,[0]),(6,[0]),(8,[0,1]),(9,[0,1]),(10,[0,1]),(11,[0,1]),(12,[0,1]),(13,[0,1]),(14,[0,1]),(15,[0,1]),(16,[0,1]),(17,[0,1]),(19,[0,1]),(20,[0,1])] [(.int .i64 p,[])] (by kernel_rfl) fun C K hC hK=>?_);simp -implicitDefEqProofs [d1,hvw,hwl,hbw,aW,eN,htk,show ch.length≤9223372036854775807 by omega,show ch.length*8≤140737488355328 by omega,show ch.length+1≤9223372036854775807 by omega,show(ch.length+1)*8≤140737488355328 by omega,L1,LLn,Ln,LSh,aa,aQ];refine⟨hC _ _ _ _ (k1 _ _ rfl),hK _ _ ?_⟩;clear hC hK C K;by_cases hp0:p<0
      ·rw[if_pos hp0]at hP;subst hP;simp -implicitDefEqProofs -dsimp[hp0,L1,LLn,Ln,LSh,aa,aQ]
      ·rw[if_neg hp0]at hP;obtain⟨j,hj⟩:∃j:Nat,p=j:=⟨p.toNat,by omega⟩;have k3:=k2 j hj;rw[hj,Int.toNat_natCast]at hP;subst hj;obtain⟨p2,hp2⟩:∃p2,p2=G j:=⟨_,rfl⟩;have hpl2:=hGle j;rw[←hp2]at k3 hP hpl2
       have hjl:j≤r.length:=by omega
       have hw1:IntKind.i64.wrap (1+(j:Int))=(j:Int)+1:=by rw[wrap64 (by omega) (by omega)];omega
       simp -implicitDefEqProofs -dsimp[hp0,L1,LLn,Ln,LSh,aa,aQ];by_cases d2:ex=[]
       ·subst d2;refine aK (am tok mixed [6,9] [(0,[1,2]),(1,[1,2]),(2,[1,2]),(7,[0]),(8,[0]),(10,[0,1]),(11,[0,1]),(13,[0,1]),(14,[0,1]),(15,[0,1]),(16,[0,1])] [(.int .i64 p2,[])] (by kernel_rfl) fun C K hC hK=>?_);simp -implicitDefEqProofs [hw1,htk,eN,hjl,show(0:Int)≤(j:Int)+1 by omega,L1,LLn,Ln,LSh,aa,aQ];refine⟨hC _ _ _ _ (k3 _ _ rfl),hK _ _ ?_⟩;clear hC hK C K;by_cases hq0:p2<0
        ·rw[if_pos hq0]at hP;subst hP;simp -implicitDefEqProofs -dsimp[hq0,L1,LLn,Ln,LSh,aa,aQ]
        ·rw[if_neg hq0]at hP;have hw2:IntKind.i64.wrap (1+(j:Int))=1+(j:Int):=wrap64 (by omega) (by omega);have hw3:IntKind.i64.wrap (1+(j:Int)+p2)=1+(j:Int)+p2:=wrap64 (by omega) (by omega);subst hP;simp -implicitDefEqProofs -dsimp[hq0,hw2,hw3,L1,LLn,Ln,LSh,aa,aQ]
       ·refine aK (am tok mixed [6,9] [(0,[1,2]),(1,[1,2]),(2,[1,2]),(7,[0]),(8,[0]),(10,[0,1]),(11,[0,1]),(13,[0,1]),(14,[0,1]),(15,[0,1]),(16,[0,1])] [(.int .i64 p2,[])] (by kernel_rfl) fun C K hC hK=>?_);simp -implicitDefEqProofs [d2,hw1,htk,eN,hjl,show(0:Int)≤(j:Int)+1 by omega,show ex.length≤9223372036854775807 by omega,show ex.length*8≤140737488355328 by omega,show ex.length+1≤9223372036854775807 by omega,show(ex.length+1)*8≤140737488355328 by omega,L1,LLn,Ln,LSh,aa,aQ];refine⟨hC _ _ _ _ (k3 _ _ rfl),hK _ _ ?_⟩;clear hC hK C K;by_cases hq0:p2<0
        ·rw[if_pos hq0]at hP;subst hP;simp -implicitDefEqProofs -dsimp[hq0,L1,LLn,Ln,LSh,aa,aQ]
        ·rw[if_neg hq0]at hP;have hw2:IntKind.i64.wrap (1+(j:Int))=1+(j:Int):=wrap64 (by omega) (by omega);have hw3:IntKind.i64.wrap (1+(j:Int)+p2)=1+(j:Int)+p2:=wrap64 (by omega) (by omega);subst hP;simp -implicitDefEqProofs -dsimp[hq0,hw2,hw3,L1,LLn,Ln,LSh,aa,aQ]
    ·rw[if_pos (.inl c2)]at hP;subst hP;have hyl:=List.length_pos_iff.2 c2;refine aC (aD tok Tryz.func115 rfl rfl ?_);refine wx ?_;simp -implicitDefEqProofs -dsimp[Tryz.f115,List.replicate,ab,dL,LNd,hrl,c1,c2,hyl,L1,LLn,Ln,LSh,aa,aQ,L1,LLn,Ln,LSh,aa,aQ]
theorem inRange39(b:Int):aR Tryz.prog 114 [.int .i64 b] fun r=>r = .bool (decide (-1000000000000000≤b)&&decide (b≤1000000000000000)):=by
 by_cases h1 : -1000000000000000≤b
 ·by_cases h2:b≤1000000000000000
  ·rw[decide_eq_true h1,decide_eq_true h2];refine aC (aD tok Tryz.func114 rfl rfl ?_);refine wx ?_;simp -implicitDefEqProofs -dsimp[Tryz.f114,List.replicate,h1,h2]
  ·rw[decide_eq_true h1,decide_eq_false h2];refine aC (aD tok Tryz.func114 rfl rfl ?_);refine wx ?_;simp -implicitDefEqProofs -dsimp[Tryz.f114,List.replicate,h1,h2]
 ·rw[decide_eq_false h1];refine aC (aD tok Tryz.func114 rfl rfl ?_);refine wx ?_;simp -implicitDefEqProofs -dsimp[Tryz.f114,List.replicate,h1]
theorem check39(ws:List Int)(es:List (List Nat))(f g fl:Bool)(b:Int)(l:List Nde)(hl:∀e∈es,e.length≤1000000)(hp:l.length≤1000000):aR Tryz.prog 71 [ab f g ws es,.int .i64 b,LNd fl l] fun r=>r = .bool (fJ ws es b l):=by
 have cv:=valid39N ws es f g hl;have ci:=inRange39 b;obtain⟨E,hE⟩:∃E,E=kf ws es:=⟨_,rfl⟩;unfold fJ;rw[←hE]at cv ⊢;simp only[ab,L1,LLn]at cv;by_cases h0:E=0
 ·rw[if_pos h0];have hb:=fY.1 (hE.symm.trans h0);subst h0;by_cases h1 : -1000000000000000≤b
  ·by_cases h2:b≤1000000000000000
   ·rw[if_neg (by omega),check_same hb.ed (fun w hw=>by obtain⟨i,hi,rfl⟩:=List.mem_iff_getElem.1 hw;have:=(hb.w i hi).1;rwa [ah _ _ hi]at this)];rw[decide_eq_true h1,decide_eq_true h2,Bool.true_and]at ci;unfold checkRf;by_cases h3:l.length=0
    ·have:l=[]:=List.length_eq_zero_iff.1 h3;subst this;refine aC (aD tok Tryz.func71 rfl rfl ?_);refine wx ?_;simp -implicitDefEqProofs -dsimp[Tryz.f71,List.replicate,ab,LNd,L1,LLn];refine(aF (cv) (by simp)).mono ?_;rintro r H' ⟨rfl,rfl⟩;simp -implicitDefEqProofs -dsimp[L1,LLn];refine(aF (ci) (by simp)).mono ?_;rintro r H' ⟨rfl,rfl⟩;simp -implicitDefEqProofs -dsimp[L1,LLn]
    ·have cp:=part39 hb f g fl (l.length+1) l [] [] false false b (by omega) (by simp;omega) (by omega) (by omega)
     have cp2:aR Tryz.prog 115 [ab f g ws es,.agg [.nilS,.nilS,.int .i64 b],LNd fl l] fun r=>r = .int .i64 (cH ws es (l.length+1) [] [] b l):=by
      refine nQ cp rfl (fun i a a' h1 h2=>?_)
      match i with
      | 0=>simp at h1 h2;subst h1;subst h2;exact .refl _
      | 1 =>
       simp only[List.getElem?_cons_succ,List.getElem?_cons_zero,Option.some.injEq]at h1 h2;subst h1;subst h2;refine .agg _ _ rfl (fun i c d h3 h4=>?_)
       match i with
       | 0=>simp at h3 h4;subst h3;subst h4;exact .nil _ _
       | 1=>simp at h3 h4;subst h3;subst h4;exact .nil _ _
       | 2=>simp at h3 h4;subst h3;subst h4;exact .refl _
       | n+3=>simp at h3
      | 2=>simp at h1 h2;subst h1;subst h2;exact .refl _
      | n+3=>simp at h1
     obtain⟨p,hp⟩:∃p,p=cH ws es (l.length+1) [] [] b l:=⟨_,rfl⟩;rw[←hp]at cp2 ⊢;simp only[ab,L1,LLn,LNd]at cp2
     have h4:0<l.length:=by omega
     rw[decide_eq_true h4,Bool.true_and];refine aC (aD tok Tryz.func71 rfl rfl ?_);refine wx ?_;simp -implicitDefEqProofs -dsimp[Tryz.f71,List.replicate,ab,LNd,L1,LLn];refine(aF (cv) (by simp)).mono ?_;rintro r H' ⟨rfl,rfl⟩;simp -implicitDefEqProofs -dsimp[L1,LLn];refine(aF (ci) (by simp)).mono ?_;rintro r H' ⟨rfl,rfl⟩;simp -implicitDefEqProofs -dsimp[h4,L1,LLn];refine(aF (cp2) (by simp)).mono ?_;rintro r H' ⟨rfl,rfl⟩;by_cases h5:p=l.length
     ·simp -implicitDefEqProofs -dsimp[h5,L1,LLn]
     ·simp -implicitDefEqProofs -dsimp[h5,L1,LLn]
   ·rw[if_pos (by omega)];rw[decide_eq_true h1,decide_eq_false h2]at ci;refine aC (aD tok Tryz.func71 rfl rfl ?_);refine wx ?_;simp -implicitDefEqProofs -dsimp[Tryz.f71,List.replicate,ab,LNd,L1,LLn];refine(aF (cv) (by simp)).mono ?_;rintro r H' ⟨rfl,rfl⟩;simp -implicitDefEqProofs -dsimp[L1,LLn];refine(aF (ci) (by simp)).mono ?_;rintro r H' ⟨rfl,rfl⟩;simp -implicitDefEqProofs -dsimp[L1,LLn]
  ·rw[if_pos (by omega)];rw[decide_eq_false h1,Bool.false_and]at ci;refine aC (aD tok Tryz.func71 rfl rfl ?_);refine wx ?_;simp -implicitDefEqProofs -dsimp[Tryz.f71,List.replicate,ab,LNd,L1,LLn];refine(aF (cv) (by simp)).mono ?_;rintro r H' ⟨rfl,rfl⟩;simp -implicitDefEqProofs -dsimp[L1,LLn];refine(aF (ci) (by simp)).mono ?_;rintro r H' ⟨rfl,rfl⟩;simp -implicitDefEqProofs -dsimp[L1,LLn]
 ·rw[if_neg h0];refine aC (aD tok Tryz.func71 rfl rfl ?_);refine wx ?_;simp -implicitDefEqProofs -dsimp[Tryz.f71,List.replicate,ab,LNd,L1,LLn];refine(aF (cv) (by simp)).mono ?_;rintro r H' ⟨rfl,rfl⟩;simp -implicitDefEqProofs -dsimp[h0,L1,LLn]
def LLC(f g:Bool)(cores:List (List Cr)):V:=.lst 1 g (cores.map (LC f))
@[simp] theorem LLC_pure (f g:Bool) (cores:List (List Cr)):AM.Pure (LLC f g cores):=.lst _ _ _ (fun x hx=>by obtain⟨K,_,rfl⟩:=List.mem_map.1 hx;exact LC_pure _ _)
def vsC(cores:List (List Cr)):List Cr:=eW (fu cores.flatten)
def PRB(cores:List (List Cr)):V:=.tup [ab false false (aX (vsC cores).length) (cores.map fun K=>K.map (eG (vsC cores))),LC false (vsC cores)]
def flC(f:Bool)(K:List Cr):FlV:=⟨f,crL K⟩
theorem cat_crL(f:Bool):∀cores:List (List Cr),cz (cores.map (flC f))=crL cores.flatten
 | []=>rfl
 | K::cs=>by
  have:=cat_crL f cs;unfold cz at this ⊢;simp only[List.map_cons,List.flatten_cons,this];unfold crL flC;rw[List.map_append];rfl
theorem mS(cores:List (List Cr))(f g:Bool){n:Nat}(hn:cores.length=n)(hn2:n≤100000)(hK:∀K∈cores,K.length≤100000)(hT:cores.flatten.length≤1000000):
  kX Tryz.prog 100 [LLC f g cores] fun e z xs=>e=49∧z=2∧xs=crL cores.flatten:=by
 have h:=concatO_C (cores.map (flC f)) g (fun l hl x hx=>by
  obtain⟨K,_,rfl⟩:=List.mem_map.1 hl;obtain⟨h1,h2⟩:=mP K x hx;refine⟨h1,h2,?_⟩;obtain⟨c,_,rfl⟩:=List.mem_map.1 hx
  rfl) (by rw[List.length_map];omega) (by rw[cat_crL,bd];exact hT)
 rw[cat_crL,List.map_map]at h;exact h
theorem crL_scalar(F:List Cr):∀x∈crL F,Scalar x:=fun x hx=>by
 obtain⟨c,_,rfl⟩:=List.mem_map.1 hx;exact .agg _ (fun d hd=>by simp only[List.mem_cons,List.not_mem_nil,or_false]at hd;rcases hd with rfl | rfl<;>constructor)
theorem exp_CO{H:List B}{k n e:Nat}{fz:Bool}{cores:List (List Cr)}(hk:H[k]?=some (.buf e 1 (cores.map (LC false)) fz))(hn:cores.length=n):Exp H (.buf k 0 n n) (LLC false false cores):=by
 subst hn;have:=Exp.buf k 0 cores.length e 1 (cores.map (LC false)) fz hk (by simp) (fun x hx=>by obtain⟨K,_,rfl⟩:=List.mem_map.1 hx;exact LC_pure _ _);rw[List.drop_zero,List.length_map,List.take_of_length_le (by simp)]at this;exact this
theorem exp_pre{H:List B}{k e m N:Nat}{fz:Bool}{vs VZ zs:List Cr}(hk:H[k]?=some (.buf e 2 (crL VZ) fz))(hV:VZ=vs++zs)(hm:vs.length=m)(hN:VZ.length=N):Exp H (.buf k 0 m N) (LC false vs):=by
 subst hm;subst hN;have:=Exp.buf k 0 vs.length e 2 (crL VZ) fz hk (by rw[bd,hV];simp) (fun x hx=>(mP VZ x hx).1);rw[List.drop_zero,bd]at this
 have e1:(crL VZ).take vs.length=vs.map aN:=by
  rw[hV];unfold crL;rw[List.map_append,List.take_left' (by simp)]
 rw[e1]at this;exact this
theorem problem_h0(cores:List (List Cr))(g:Bool)(n:Nat)(hn:cores.length=n)(hn2:n≤100000)(hK:∀K∈cores,K.length≤100000)(hT:cores.flatten.length≤1000000):
  bA Tryz.prog 63 [LLC false g cores] ([]:List B) fun x y=>∃G r',y=[]++G∧ExpN y 0 x r'∧AM.Pure r'∧r'=PRB cores:=by
 have hcat0:=mS cores false g hn hn2 hK hT;obtain⟨F,hF⟩:∃F,F=cores.flatten:=⟨_,rfl⟩;obtain⟨N,hN⟩:∃N,F.length=N:=⟨_,rfl⟩;obtain⟨S,hS⟩:∃S,S=fu F:=⟨_,rfl⟩
 have hSl:S.length=N:=by rw[hS,jv,hN]
 obtain⟨vs,hvs⟩:∃vs,vs=eW S:=⟨_,rfl⟩
 have hvv:vsC cores=vs:=by unfold vsC;rw[←hF,←hS,hvs]
 obtain⟨m,hm⟩:∃m,vs.length=m:=⟨_,rfl⟩
 have hmN:m≤N:=by rw[←hm,hvs,←hSl];exact cpF_len S S.length
 obtain⟨VZ,hVZ⟩:∃VZ,VZ=vs++List.replicate (N-m) (⟨0,0⟩:Cr):=⟨_,rfl⟩
 have hVl:VZ.length=N:=by rw[hVZ,List.length_append,List.length_replicate];omega
 have hcl:=bd VZ
 have hNb:N≤1000000:=by rw[←hN,hF];exact hT
 rw[←hF]at hcat0
 have hZ:∀k,rbB k (B.cells [.nilS,.nilS]):=fun k c hc=>by simp at hc;rcases hc with rfl | rfl<;>simp[rb]
 have hrb1:∀bl∈[B.cells [.nilS,.nilS],.buf 49 2 (crL S) false],rbB 2 bl:=by
  intro bl hbl;simp only[List.mem_cons,List.not_mem_nil,or_false]at hbl
  rcases hbl with rfl | rfl
  ·exact hZ _
  ·exact gN _ _ _ _
 have hsort:=na (H:=[B.cells [.nilS,.nilS],.buf 49 2 (crL F) false]) (k:=1) F N hN (by simp) (by omega);rw[←hS]at hsort;have hcomp:=compact_h (H:=[B.cells [.nilS,.nilS],.buf 49 2 (crL S) false]) (k0:=1) (by simp) hrb1 S N hSl hNb;rw[←hvs,hm,←hVZ]at hcomp;simp only[CB,List.set_cons_succ,List.set_cons_zero]at hsort hcomp;simp only[LLC]at hcat0;refine aD tok Tryz.func63 rfl rfl ?_;refine wx ?_;simp -implicitDefEqProofs -dsimp[Tryz.f63,List.replicate,LC,LLC];refine(callO hcat0 (by simp)).mono ?_;rintro r H' ⟨e,z,xs,rfl,rfl,_,rfl,rfl,rfl⟩;rw[bd,hN];simp -implicitDefEqProofs -dsimp[LC,LLC];refine bK hsort ?_;rintro r H' ⟨rfl,rfl⟩;simp -implicitDefEqProofs -dsimp[LC,LLC];refine bK hcomp ?_;rintro r H' ⟨rfl,rfl⟩;simp -implicitDefEqProofs -dsimp[hcl,hVl,LC,LLC]
 have hrI:∀(k:Nat) (l:List Int) (fz:Bool),rbB k (.buf 2 1 (l.map aW) fz):=fun k l fz=>(rbB_buf1 (fun x hx=>by obtain⟨y,_,rfl⟩:=List.mem_map.1 hx;exact⟨by simp[aW],rfl⟩)).2 trivial
 have hrN:∀(k:Nat) (l:List Nat) (fz:Bool),rbB k (.buf 3 1 (nuL l) fz):=fun k l fz=>(rbB_buf1 (cx l)).2 trivial
 have hrE:∀(k:Nat) (es:List (List Nat)) (fz:Bool),rbB k (.buf 109 1 (es.map (Ln false)) fz):=fun k es fz=>(rbB_buf1 (fun x hx=>by obtain⟨e,_,rfl⟩:=List.mem_map.1 hx;exact⟨by simp,rfl⟩)).2 trivial
 have hrW:∀i:Nat,∀bl∈[B.cells [.nilS,.nilS],.buf 49 2 (crL VZ) false,B.cells [.buf 3 0 i i,.nilS],.buf 2 1 ((aX i).map aW) false],rbB 4 bl:=by
  intro i bl hbl;simp only[List.mem_cons,List.not_mem_nil,or_false]at hbl
  rcases hbl with rfl | rfl | rfl | rfl
  ·exact hZ _
  ·exact gN _ _ _ _
  ·intro c hc;simp at hc;rcases hc with rfl | rfl<;>simp[rb]
  ·exact hrI _ _ _
 have hrV:∀(i j:Nat) (es:List (List Nat)),∀bl∈[B.cells [.nilS,.nilS],.buf 49 2 (crL VZ) false,B.cells [.buf 3 0 i i,.buf 4 0 j j],.buf 2 1 ((aX i).map aW) false,.buf 109 1 (es.map (Ln false)) false],rbB 5 bl:=by
  intro i j es bl hbl;simp only[List.mem_cons,List.not_mem_nil,or_false]at hbl
  rcases hbl with rfl | rfl | rfl | rfl | rfl
  ·exact hZ _
  ·exact gN _ _ _ _
  ·intro c hc;simp at hc;rcases hc with rfl | rfl<;>simp[rb]
  ·exact hrI _ _ _
  ·exact hrE _ _ _
 have hrU:∀(i j:Nat) (es:List (List Nat)) (l:List Nat),∀bl∈[B.cells [.nilS,.nilS],.buf 49 2 (crL VZ) false,B.cells [.buf 3 0 i i,.buf 4 0 j j],.buf 2 1 ((aX i).map aW) false,.buf 109 1 (es.map (Ln false)) false,.buf 3 1 (nuL l) false],rbB 6 bl:=by
  intro i j es l bl hbl;simp only[List.mem_cons,List.not_mem_nil,or_false]at hbl
  rcases hbl with rfl | rfl | rfl | rfl | rfl | rfl
  ·exact hZ _
  ·exact gN _ _ _ _
  ·intro c hc;simp at hc;rcases hc with rfl | rfl<;>simp[rb]
  ·exact hrI _ _ _
  ·exact hrE _ _ _
  ·exact hrN _ _ _
 refine aK (co 2 1 [] 2 [0] rfl (by simp) (by simp) (W_loopM 29 [21,22,23,24,25,26,27,28] (by simp[mB]<;>rfl) (σ:=Nat) (fun i=>i≤m) (fun i=>m-i) (fun i=>[(21,.int .i64 i)]) (fun i=>[B.cells [.nilS,.nilS],.buf 49 2 (crL VZ) false,B.cells [.buf 3 0 i i,.nilS],.buf 2 1 ((aX i).map aW) false]) 0 (by omega) (by simp) (by simp[aX]) (by simp) ?_));intro i hi N1 Q1 hN1 hQ1
 have hol:(aX i).length=i:=by simp[aX]
 by_cases hb:i<m
 ·have hos:aX (i+1)=aX i++[1]:=by unfold aX;rw[List.replicate_succ']
  refine wx ?_;simp -implicitDefEqProofs -dsimp[hb,show(i:Int)<m by omega,aJ i (by omega),hol,cap8 i (by omega),LC,LLC];refine hN1 (i+1) _ _ (by omega) (by omega) (by simp) ⟨[],by simp[hos,aW]⟩ (by simp) (hrW (i+1))
 ·obtain rfl:i=m:=by omega
  obtain⟨eF,heF⟩:∃eF:Nat→List (List Nat),eF=fun j=>(cores.take j).map fun K=>K.map (eG vs):=⟨_,rfl⟩
  have hel:∀j,j≤n→(eF j).length=j:=fun j hj=>by rw[heF];simp;omega
  refine wx ?_;simp -implicitDefEqProofs -dsimp[hb,show ¬(i:Int)<i by omega,LC,LLC];refine hQ1 _ _ _ ?_;simp -implicitDefEqProofs -dsimp[hn,LC,LLC];refine aK (co 109 1 [] 2 [1] rfl (by simp) (by simp) (W_loopM 59 [7,8,10,11,12,31,32,33,34,35,36,37,38,39,40,41,42,43,44,45,46,47,48,49,50,51,52,53,54,55,56,57,58] (by simp[mB]<;>rfl) (σ:=Nat) (fun j=>j≤n) (fun j=>n-j) (fun j=>[(31,.int .i64 j)]) (fun j=>[B.cells [.nilS,.nilS],.buf 49 2 (crL VZ) false,B.cells [.buf 3 0 i i,.buf 4 0 j j],.buf 2 1 ((aX i).map aW) false,.buf 109 1 ((eF j).map (Ln false)) false]) 0 (by omega) (by simp[hn]) (by simp[heF]) (by simp) ?_));intro j hj N2 Q2 hN2 hQ2;have hej:=hel j hj;by_cases hbj:j<n
  ·have hbc:j<cores.length:=by omega
   obtain⟨K,hKe⟩:∃K,K=cores[j]:=⟨_,rfl⟩
   have hKl:K.length≤100000:=by rw[hKe];exact hK _ (List.getElem_mem _)
   have hes:eF (j+1)=eF j++[K.map (eG vs)]:=by rw[heF];simp only;rw[List.take_succ_eq_append_getElem hbc,List.map_append,←hKe];rfl
   refine wx ?_;simp -implicitDefEqProofs -dsimp[hbj,hbc,hn,hKe.symm,aN,show(j:Int)<n by omega,LC,LLC]
   obtain⟨iF,hiF⟩:∃iF:Nat→List Nat,iF=fun x=>(K.take x).map (eG vs):=⟨_,rfl⟩
   have hil:∀x,x≤K.length→(iF x).length=x:=fun x hx=>by rw[hiF];simp;omega
   refine aK (eY 3 1 [8] (by simp) (W_loopM 52 [8,10,11,12,37,38,39,40,41,42,43,44,45,46,47,48,49,50,51] (by simp[mB]<;>rfl) (σ:=Nat) (fun x=>x≤K.length) (fun x=>K.length-x) (fun x=>[(37,.int .i64 x),(8,.buf 5 0 x x)]) (fun x=>[B.cells [.nilS,.nilS],.buf 49 2 (crL VZ) false,B.cells [.buf 3 0 i i,.buf 4 0 j j],.buf 2 1 ((aX i).map aW) false,.buf 109 1 ((eF j).map (Ln false)) false,.buf 3 1 (nuL (iF x)) false]) 0 (by omega) (by simp) (by simp[hiF,nuL]) (by simp) ?_));intro x hx N3 Q3 hN3 hQ3;have hix:=hil x hx
   have hnl:(nuL (iF x)).length=x:=by rw[aw,hix]
   by_cases hbx:x<K.length
   ·obtain⟨c,hc⟩:∃c,c=K[x]:=⟨_,rfl⟩
    have his:iF (x+1)=iF x++[eG vs c]:=by rw[hiF];simp only;rw[List.take_succ_eq_append_getElem hbx,List.map_append,←hc];rfl
    have hcb:=iY vs c false (by omega);obtain⟨w,hw⟩:∃w,w=eG vs c:=⟨_,rfl⟩
    have hw2:bsC vs c 0 vs.length=w:=by rw[hw];rfl
    rw[←hw]at his;rw[hw2]at hcb;simp only[aN]at hcb;refine wx ?_;simp -implicitDefEqProofs -dsimp[hbx,hc.symm,aN,show(x:Int)<K.length by omega,LC,LLC];refine(callX (args:=[.buf 1 0 i N,.agg [.int .i64 c.id,.int .i64 c.attr],.fn 75 []]) hcb rfl (fun a v v' h1 h2=>?_) (.tup _ (fun v hv=>by simp at hv;rcases hv with rfl | rfl<;>constructor))).mono ?_
    ·match a with
     | 0=>simp at h1 h2;subst h1;subst h2;exact exp_pre (e:=49) (fz:=false) rfl hVZ hm hVl
     | 1=>simp at h1 h2;subst h1;subst h2;exact .pure _ (by simp)
     | 2=>simp at h1 h2;subst h1;subst h2;exact .pure _ (by simp)
     | a+3=>simp at h1
    rintro r H' ⟨rfl,rfl⟩;simp -implicitDefEqProofs -dsimp[hnl,cap8 x (by omega),aJ x (by omega),LC,LLC];refine hN3 (x+1) _ _ (by omega) (by omega) (by simp) ⟨_,by simp[his,nuL,eN];rfl⟩ (by simp) (hrU i j (eF j) (iF (x+1)))
   ·obtain rfl:x=K.length:=by omega
    have hiK:iF K.length=K.map (eG vs):=by rw[hiF];simp
    rw[←hiK]at hes;refine qb 5 [8] rfl (by simp[hnl]) ?_;refine wx ?_;simp -implicitDefEqProofs -dsimp[hbx,show ¬(K.length:Int)<K.length by omega,LC,LLC];refine hQ3 _ _ _ ?_;simp -implicitDefEqProofs -dsimp[hej,cap24 j (by omega),aJ j (by omega),LC,LLC];refine hN2 (j+1) _ _ (by omega) (by omega) (by simp[hn]) ⟨_,by simp[hes,Ln,nuL];rfl⟩ (by simp) (hrV i (j+1) (eF (j+1)))
  ·obtain rfl:j=n:=by omega
   have hen:eF j=cores.map fun K=>K.map (eG vs):=by rw[heF];simp only;rw[List.take_of_length_le (by omega)]
   refine wx ?_;simp -implicitDefEqProofs -dsimp[hbj,hn,show ¬(j:Int)<j by omega,LC,LLC];refine hQ2 _ _ _ ?_;simp -implicitDefEqProofs -dsimp[LC,LLC]
   have hP:PRB cores = .tup [.agg [.lst 1 false ((aX i).map aW),.lst 1 false ((eF j).map (Ln false))],LC false vs]:=by
    unfold PRB;rw[hvv,hm,hen];rfl
   refine⟨?_,by rw[hP];simp[aW]⟩;rw[hP];refine .tup _ _ rfl (jh (.agg _ _ rfl (jh ?_ ?_)) ?_)
   ·have:=gI (n:=0) (k:=3) (len:=i) (tot:=i) (show 0≤3 by omega) (H:=[B.cells [.buf 3 0 i i,.buf 4 0 j j],.buf 49 2 (crL VZ) false,B.cells [.buf 3 0 i i,.buf 4 0 j j],.buf 2 1 ((aX i).map aW) false,.buf 109 1 ((eF j).map (Ln false)) false]) (e:=2) (z:=1) (fz:=false) rfl (by simp[aX]) (Nat.le_refl _) (fun x hx=>by obtain⟨y,_,rfl⟩:=List.mem_map.1 hx;simp[aW])
    rwa [List.take_of_length_le (by simp[aX])]at this
   ·have:=gI (n:=0) (k:=4) (len:=j) (tot:=j) (show 0≤4 by omega) (H:=[B.cells [.buf 3 0 i i,.buf 4 0 j j],.buf 49 2 (crL VZ) false,B.cells [.buf 3 0 i i,.buf 4 0 j j],.buf 2 1 ((aX i).map aW) false,.buf 109 1 ((eF j).map (Ln false)) false]) (e:=109) (z:=1) (fz:=false) rfl (by rw[List.length_map,hej]) (Nat.le_refl _) (fun x hx=>by obtain⟨y,_,rfl⟩:=List.mem_map.1 hx;simp)
    rwa [List.take_of_length_le (by rw[List.length_map,hej];exact Nat.le_refl _)]at this
   ·have:=gI (n:=0) (k:=1) (len:=i) (tot:=N) (show 0≤1 by omega) (H:=[B.cells [.buf 3 0 i i,.buf 4 0 j j],.buf 49 2 (crL VZ) false,B.cells [.buf 3 0 i i,.buf 4 0 j j],.buf 2 1 ((aX i).map aW) false,.buf 109 1 ((eF j).map (Ln false)) false]) (e:=49) (z:=2) (fz:=false) rfl (by rw[bd,hVl]) hmN (fun x hx=>(mP VZ x hx).1)
    have e1:(crL VZ).take i=vs.map aN:=by
     rw[hVZ];unfold crL;rw[List.map_append,List.take_left' (by rw[List.length_map,hm])]
    rwa [e1]at this
theorem problem_u(cores:List (List Cr))(g:Bool)(hn2:cores.length≤100000)(hK:∀K∈cores,K.length≤100000)(hT:cores.flatten.length≤1000000):aR Tryz.prog 63 [LLC false g cores] fun r=>r=PRB cores :=
 kd (lD (K:=fun r=>r=PRB cores) (problem_h0 cores g _ rfl hn2 hK hT))
theorem stringsEq_u(a b:List ByteArray)(f g:Bool)(hl:a.length≤1000000):aR Tryz.prog 119 [LS f a,LS g b] fun r=>r = .bool (jk a b):=by
 unfold jk;by_cases h0:a.length=b.length
 ·rw[decide_eq_true h0,Bool.true_and]
  obtain⟨E,hE⟩:∃E,E=(List.range a.length).all fun i=>ej (sAt a i) (sAt b i):=⟨_,rfl⟩
  rw[←hE];refine aC (aD tok Tryz.func119 rfl rfl ?_);refine wx ?_;simp -implicitDefEqProofs -dsimp[Tryz.f119,List.replicate,LS,h0];refine aK (W_loopM 26 [4,5,13,14,15,16,17,18,19,20,21,22,23,24,25] (by simp[mB]<;>rfl) (σ:=Nat) (fun i=>i≤a.length∧(List.range i).all (fun i=>ej (sAt a i) (sAt b i))=true) (fun i=>a.length-i) (fun i=>[(13,.int .i64 i)]) (fun _=>[]) 0 ⟨by omega,rfl⟩ (by simp) rfl (by simp) ?_);rintro i ⟨hi,hall⟩ N Q hN hQ;by_cases hb:i<a.length
  ·have hb2:i<b.length:=by omega
   have ha1:sAt a i=a[i]:=by simp[sAt,hb]
   have ha2:sAt b i=b[i]:=by simp[sAt,hb2]
   cases hq:(a[i].toList == b[i].toList) with
   | true =>
    refine wx ?_;simp -implicitDefEqProofs -dsimp[hb,hb2,hq];refine .inr ⟨aI (by kernel_rfl),?_⟩;simp -implicitDefEqProofs -dsimp[aJ i (by omega)];refine hN (i+1) _ _ ⟨by omega,dV hall (by unfold ej;rw[ha1,ha2,hq])⟩ (by omega) (by simp) ⟨[],rfl⟩ (by simp) (by simp)
   | false =>
    have hno:(List.range a.length).all (fun i=>ej (sAt a i) (sAt b i))=false:=by
     cases hh:(List.range a.length).all (fun i=>ej (sAt a i) (sAt b i))
     ·rfl
     ·have:=List.all_eq_true.1 hh i (by simpa using hb);rw[ej,ha1,ha2,hq]at this;cases this
    rw[hno]at hE;refine wx ?_;simp -implicitDefEqProofs -dsimp[hb,hb2,hq];refine .inr ⟨aI (by kernel_rfl),?_⟩;refine hQ _ _ _ ?_;simp -implicitDefEqProofs -dsimp[];exact hE
  ·obtain rfl:i=a.length:=by omega
   rw[hall]at hE;refine wx ?_;simp -implicitDefEqProofs -dsimp[hb,h0];refine hQ _ _ _ ?_;simp -implicitDefEqProofs -dsimp[];exact hE
 ·rw[decide_eq_false h0,Bool.false_and];refine aC (aD tok Tryz.func119 rfl rfl ?_);refine wx ?_;simp -implicitDefEqProofs -dsimp[Tryz.f119,List.replicate,LS,show ¬((a.length:Int)=b.length) by omega]
def kV:List Rw→List Rw→Bool
 | [],[]=>true
 | x::a,y::b=>decide (x.id=y.id)&&kV a b
 | _,_=>false
theorem ln:∀a b:List Rw,a.length≠b.length→kV a b=false
 | [],[],h=>absurd rfl h
 | [],_::_,_=>rfl
 | _::_,[],_=>rfl
 | x::a,y::b,h=>by
  rw[kV,ln a b (by simpa using h),Bool.and_false]
theorem alike1_u(a b:Rw):aR Tryz.prog 121 [aL a,aL b] fun r=>r = .bool (decide (a.id=b.id)):=by
 by_cases h:a.id=b.id
 ·rw[decide_eq_true h];refine aC (aD tok Tryz.func121 rfl rfl ?_);refine wx ?_;simp -implicitDefEqProofs -dsimp[Tryz.f121,List.replicate,aL,LV,h]
 ·rw[decide_eq_false h];refine aC (aD tok Tryz.func121 rfl rfl ?_);refine wx ?_;simp -implicitDefEqProofs -dsimp[Tryz.f121,List.replicate,aL,LV,h]
theorem eqFunc_u(a b:List Rw)(f g:Bool)(ha:a.length≤1000000)(hb:b.length≤1000000):aR Tryz.prog 120 [LR f a,LR g b,.fn 121 []] fun r=>r = .bool (kV a b):=by
 by_cases h0:a.length=b.length
 ·obtain⟨E,hE⟩:∃E,E=kV a b:=⟨_,rfl⟩;rw[←hE];refine aC (aD tok Tryz.func120 rfl rfl ?_);refine wx ?_;simp -implicitDefEqProofs -dsimp[Tryz.f120,List.replicate,h0,LR];refine aK (W_loopM 32 [6,7,8,9,17,18,19,20,21,22,23,24,25,26,27,28,29,30,31] (by simp[mB]<;>rfl) (σ:=Nat) (fun i=>i≤a.length∧kV (a.drop i) (b.drop i)=E) (fun i=>a.length-i) (fun i=>[(17,.int .i64 i)]) (fun _=>[]) 0 ⟨by omega,by rw[List.drop_zero,List.drop_zero];exact hE.symm⟩ (by simp) rfl (by simp) ?_);rintro i ⟨hi,hx⟩ N Q hN hQ;by_cases h1:i<a.length
  ·have h2:i<b.length:=by omega
   rw[List.drop_eq_getElem_cons h1,List.drop_eq_getElem_cons h2,kV]at hx;obtain⟨x,hxe⟩:∃x,x=a[i]:=⟨_,rfl⟩;obtain⟨y,hye⟩:∃y,y=b[i]:=⟨_,rfl⟩;rw[←hxe,←hye]at hx;have hc:=alike1_u x y;simp only[aL,LV]at hc;by_cases hq:x.id=y.id
   ·rw[decide_eq_true hq]at hc hx;rw[Bool.true_and]at hx;refine wx ?_;simp -implicitDefEqProofs -dsimp[h1,h2,hxe.symm,hye.symm,aL,LV,LR];refine(aF (hc) (by simp)).mono ?_;rintro r H' ⟨rfl,rfl⟩;simp -implicitDefEqProofs -dsimp[aJ i (by omega),LR];refine hN (i+1) _ _ ⟨by omega,hx⟩ (by omega) (by simp) ⟨_,rfl⟩ (by simp) (by simp)
   ·rw[decide_eq_false hq]at hc hx;rw[Bool.false_and]at hx;refine wx ?_;simp -implicitDefEqProofs -dsimp[h1,h2,hxe.symm,hye.symm,aL,LV,LR];refine(aF (hc) (by simp)).mono ?_;rintro r H' ⟨rfl,rfl⟩;simp -implicitDefEqProofs -dsimp[LR];refine hQ _ _ _ ?_;simp -implicitDefEqProofs -dsimp[LR];exact hx.symm
  ·rw[List.drop_of_length_le (show a.length≤i by omega),List.drop_of_length_le (show b.length≤i by omega),kV]at hx;refine wx ?_;simp -implicitDefEqProofs -dsimp[h1,h0▸h1,LR];refine hQ _ _ _ ?_;simp -implicitDefEqProofs -dsimp[LR];exact hx.symm
 ·rw[ln a b h0];refine aC (aD tok Tryz.func120 rfl rfl ?_);refine wx ?_;simp -implicitDefEqProofs -dsimp[Tryz.f120,List.replicate,LR,show ¬((a.length:Int)=b.length) by omega]
def gR(t u:Tb):Bool:=ej t.name u.name&&jk t.attrs u.attrs&&kV t.rows u.rows
theorem alike_u(t u:Tb)(f g f2 g2:Bool)(ha:t.attrs.length≤1000000)(hr:t.rows.length≤1000000)(hr2:u.rows.length≤1000000):aR Tryz.prog 73 [aG f g t,aG f2 g2 u] fun r=>r = .bool (gR t u):=by
 have c1:=stringsEq_u t.attrs u.attrs f f2 ha;have c2:=eqFunc_u t.rows u.rows g g2 hr hr2;unfold gR;simp only[LS,LR]at c1 c2
 cases h1:(t.name.toList == u.name.toList) with
 | false =>
  rw[show ej t.name u.name=false from h1,Bool.false_and,Bool.false_and];refine aC (aD tok Tryz.func73 rfl rfl ?_);refine wx ?_;simp -implicitDefEqProofs -dsimp[Tryz.f73,List.replicate,aG,LS,LR,h1]
 | true =>
  rw[show ej t.name u.name=true from h1,Bool.true_and]
  cases h2:jk t.attrs u.attrs with
  | false =>
   rw[h2]at c1;rw[Bool.false_and];refine aC (aD tok Tryz.func73 rfl rfl ?_);refine wx ?_;simp -implicitDefEqProofs -dsimp[Tryz.f73,List.replicate,aG,LS,LR,h1];refine(aF (c1) (by simp)).mono ?_;rintro r H' ⟨rfl,rfl⟩;simp -implicitDefEqProofs -dsimp[]
  | true =>
   rw[h2]at c1;rw[Bool.true_and];refine aC (aD tok Tryz.func73 rfl rfl ?_);refine wx ?_;simp -implicitDefEqProofs -dsimp[Tryz.f73,List.replicate,aG,LS,LR,h1];refine(aF (c1) (by simp)).mono ?_;rintro r H' ⟨rfl,rfl⟩;simp -implicitDefEqProofs -dsimp[];refine(aF (c2) (by simp)).mono ?_;rintro r H' ⟨rfl,rfl⟩;simp -implicitDefEqProofs -dsimp[]
section
theorem idsB_at:∀(a b:List Rw),a.length=b.length→(kV a b=true↔∀(i:Nat) (h:i<a.length) (h2:i<b.length),a[i].id=b[i].id)
 | [],[],_=>by simp[kV]
 | [],_::_,h=>by simp at h
 | _::_,[],h=>by simp at h
 | x::a,y::b,h=>by
  have hl:a.length=b.length:=by simpa using h
  rw[kV,Bool.and_eq_true,decide_eq_true_iff,idsB_at a b hl];constructor
  ·rintro⟨h1,h2⟩ i hi hi2
   cases i with
   | zero=>exact h1
   | succ i=>exact h2 i (by simpa using hi) (by simpa using hi2)
  ·intro h1;exact⟨h1 0 (by simp) (by simp),fun i hi hi2=>h1 (i+1) (by simpa using hi) (by simpa using hi2)⟩
def MayB(t u:Tb)(l:List Cr)(x:Nat):Prop:=fI (bC u x) (bC t x)=0∨bP t x∈l
structure DifP (t u:Tb) (l:List Cr):Prop where
 ids:∀(i:Nat) (h:i<u.rows.length) (h2:i<t.rows.length),u.rows[i].id=t.rows[i].id
 may:∀x,x<t.rows.length*t.attrs.length→MayB t u l x
open Classical in
noncomputable def dfB(t u:Tb)(l:List Cr):Bool:=decide (DifP t u l)
theorem dfB_iff{t u:Tb}{l:List Cr} : dfB t u l=true↔DifP t u l:=by unfold dfB;simp
noncomputable def difB(t u:Tb)(l:List Cr):Bool:=decide (validT u=0)&&(ej u.name t.name&&(jk u.attrs t.attrs&&(decide (u.rows.length=t.rows.length)&&dfB t u l)))
theorem eqSs_len{a b:List ByteArray}(h:jk a b=true):a.length=b.length:=by
 unfold jk at h;rw[Bool.and_eq_true]at h;exact of_decide_eq_true h.1
theorem differs_r(t u:Tb)(f g f2 g2 cf:Bool)(l:List Cr)(hv:TbV t)(hu:TbOk u)(hl:l.length≤1000000)(hul:validT u=0→∀r∈u.rows,r.vals.length=u.attrs.length∧∀v∈r.vals,v.s.size≤maxLen):
  aR Tryz.prog 69 [aG f g t,aG f2 g2 u,LC cf l] fun r=>r = .bool (difB t u l):=by
 have cv:=valid03 u f2 g2 hu;have cs:=strings03 u.attrs t.attrs f2 f hu.attrs;have hm:=hv.rows;have hn:=hv.attrs;simp only[aG,LS,LR]at cv cs;unfold difB;by_cases h0:validT u=0
 ·rw[h0]at cv;rw[decide_eq_true h0,Bool.true_and];have hlen:=hul h0
  cases h1:(u.name.toList == t.name.toList) with
  | false =>
   rw[show ej u.name t.name=false from h1,Bool.false_and];refine aC (aD tok Tryz.func69 rfl rfl ?_);refine wx ?_;simp -implicitDefEqProofs -dsimp[Tryz.f69,List.replicate,aG,LS,LR,LC];refine(aF (cv) (by simp)).mono ?_;rintro r H' ⟨rfl,rfl⟩;simp -implicitDefEqProofs -dsimp[h1,LS,LR,LC]
  | true =>
   rw[show ej u.name t.name=true from h1,Bool.true_and]
   cases h2:jk u.attrs t.attrs with
   | false =>
    rw[h2]at cs;rw[Bool.false_and];refine aC (aD tok Tryz.func69 rfl rfl ?_);refine wx ?_;simp -implicitDefEqProofs -dsimp[Tryz.f69,List.replicate,aG,LS,LR,LC];refine(aF (cv) (by simp)).mono ?_;rintro r H' ⟨rfl,rfl⟩;simp -implicitDefEqProofs -dsimp[h1,LS,LR,LC];refine(aF (cs) (by simp)).mono ?_;rintro r H' ⟨rfl,rfl⟩;simp -implicitDefEqProofs -dsimp[LS,LR,LC]
   | true =>
    rw[h2]at cs;rw[Bool.true_and];have hal:=eqSs_len h2;by_cases h3:u.rows.length=t.rows.length
    ·rw[decide_eq_true h3,Bool.true_and];obtain⟨E,hE⟩:∃E,E=dfB t u l:=⟨_,rfl⟩;rw[←hE]
     have hiff:E=true↔DifP t u l:=by rw[hE];exact dfB_iff
     clear hE;obtain⟨n,hne⟩:∃n,n=t.attrs.length:=⟨_,rfl⟩;obtain⟨m,hme⟩:∃m,m=t.rows.length:=⟨_,rfl⟩;have hne':=hne.symm;have hme':=hme.symm;rw[hne']at hn;rw[hme']at hm;refine aC (aD tok Tryz.func69 rfl rfl ?_);refine wx ?_;simp -implicitDefEqProofs -dsimp[Tryz.f69,List.replicate,aG,LS,LR,LC];refine(aF (cv) (by simp)).mono ?_;rintro r H' ⟨rfl,rfl⟩;simp -implicitDefEqProofs -dsimp[h1,LS,LR,LC];refine(aF (cs) (by simp)).mono ?_;rintro r H' ⟨rfl,rfl⟩;simp -implicitDefEqProofs -dsimp[h3,LS,LR,LC];refine aK (W_loopM 96 [6,7,8,36,37,38,39,40,41,42,43,44,45,46,47,48,49,50,51,52,53,54,55,56,57,58,59,60,61,62,63,64,65,66,67,68,69,70,71,72,73,74,75,76,77,78,79,80,81,82,83,84,85,86,87,88,89,90,91,92,93,94,95] (by simp[mB]<;>rfl) (σ:=Nat) (fun i=>i≤m∧(∀j,j<i→∀(h:j<u.rows.length) (h2:j<t.rows.length),u.rows[j].id=t.rows[j].id)∧∀x,x<i*n→MayB t u l x) (fun i=>m-i) (fun i=>[(7,.int .i64 i)]) (fun _=>[B.cells [.str t.name,.lst 1 f (t.attrs.map V.str),.lst 2 g (t.rows.map aL)],B.cells [.str u.name,.lst 1 f2 (u.attrs.map V.str),.lst 2 g2 (u.rows.map aL)]]) 0 ⟨by omega,fun j h=>by omega,fun x h=>by simp at h⟩ (by simp) (by simp) (by simp) ?_);rintro i ⟨hi,hids,hmay⟩ N Q hN hQ;by_cases hib:i<m
     ·have hit:i<t.rows.length:=by omega
      have hiu:i<u.rows.length:=by omega
      obtain⟨rw,hrw⟩:∃rw,rw=t.rows[i]:=⟨_,rfl⟩;obtain⟨ru,hru⟩:∃ru,ru=u.rows[i]:=⟨_,rfl⟩;have hrw':=hrw.symm;have hru':=hru.symm;by_cases hid:ru.id=rw.id
      ·have hvl:rw.vals.length=n:=by rw[hrw,hne];exact hv.len _ (List.getElem_mem hit)
       have hvu:ru.vals.length=n:=by rw[hru,(hlen _ (List.getElem_mem hiu)).1,hal,hne]
       have hsz:∀v∈ru.vals,v.s.size≤maxLen:=by rw[hru];exact(hlen _ (List.getElem_mem hiu)).2
       refine wx ?_;simp -implicitDefEqProofs -dsimp[hit,hiu,hrw',hru',aL,LV,hid,LS,LR,LC];refine .inr ⟨aI (by kernel_rfl),?_⟩;refine aK (W_loopM 96 [6,8,56,57,58,59,60,61,62,63,64,65,66,67,68,69,70,71,72,73,74,75,76,77,78,79,80,81,82,83,84,85,86,87,88,89,90,91,92,93,94,95] (by simp[mB]<;>rfl) (σ:=Nat) (fun a=>a≤n∧∀x,x<i*n+a→MayB t u l x) (fun a=>n-a) (fun a=>[(8,.int .i64 a)]) (fun _=>[B.cells [.str t.name,.lst 1 f (t.attrs.map V.str),.lst 2 g (t.rows.map aL)],B.cells [.str u.name,.lst 1 f2 (u.attrs.map V.str),.lst 2 g2 (u.rows.map aL)]]) 0 ⟨by omega,by simpa using hmay⟩ (by simp) (by simp) (by simp) ?_);rintro a ⟨ha,hmay2⟩ N2 Q2 hN2 hQ2;by_cases hab:a<n
       ·have hat:a<t.attrs.length:=by omega
        have hva:a<rw.vals.length:=by omega
        have hva2:a<ru.vals.length:=by omega
        obtain⟨v,hve⟩:∃v,v=rw.vals[a]:=⟨_,rfl⟩;obtain⟨w,hwe⟩:∃w,w=ru.vals[a]:=⟨_,rfl⟩;have hve':=hve.symm;have hwe':=hwe.symm
        have hvt:bC t (i*n+a)=v:=by
         rw[hne,dr t (hne▸hab),av hit,←hrw,fC hva,hve]
        have hvu2:bC u (i*n+a)=w:=by
         rw[hne,←hal,dr u (by omega),av hiu,←hru,fC hva2,hwe]
        have hcr:bP t (i*n+a)=⟨rw.id,(a:Int)⟩:=by
         rw[hne,fS t (hne▸hab),av hit,←hrw]
        have hlt:=aq hib hab;have c1:=compare01 w v (hsz w (by rw[hwe];exact List.getElem_mem hva2));have c2:=nn l ⟨rw.id,(a:Int)⟩ cf hl;simp only[ap]at c1;simp only[aN,LC]at c2
        have hstep:MayB t u l (i*n+a)→∀x,x<i*n+(a+1)→MayB t u l x:=fun h x hx=>by
         rcases Nat.lt_or_ge x (i*n+a) with h1 | h1
         ·exact hmay2 x h1
         ·have:x=i*n+a:=by omega
          rw[this];exact h
        obtain⟨z,hz⟩:∃z,z=fI w v:=⟨_,rfl⟩;rw[←hz]at c1;by_cases hq:z=0
        ·refine wx ?_;simp -implicitDefEqProofs -dsimp[hat,hit,hiu,hrw',hru',aL,LV,hva,hva2,hve',hwe',ap,LS,LR,LC];refine .inr ⟨aI (by kernel_rfl),?_⟩;refine ae _ (aF (c1) (by simp)) ?_;simp -implicitDefEqProofs -dsimp[hq,aJ a (by omega),LS,LR,LC];refine hN2 (a+1) _ _ ⟨by omega,hstep (.inl (by rw[hvt,hvu2,←hz];exact hq))⟩ (by omega) (by simp) ⟨[],rfl⟩ (by simp) (by simp)
        ·cases hh:eA l ⟨rw.id,(a:Int)⟩ with
         | true =>
          rw[hh]at c2;refine wx ?_;simp -implicitDefEqProofs -dsimp[hat,hit,hiu,hrw',hru',aL,LV,hva,hva2,hve',hwe',ap,LS,LR,LC];refine .inr ⟨aI (by kernel_rfl),?_⟩;refine ae _ (aF (c1) (by simp)) ?_;simp -implicitDefEqProofs -dsimp[hq,hit,hrw',aL,LV,LS,LR,LC];refine ae _ (aF (c2) (by simp)) ?_;simp -implicitDefEqProofs -dsimp[hq,aJ a (by omega),LS,LR,LC];refine hN2 (a+1) _ _ ⟨by omega,hstep (.inr (by rw[hcr];exact bW.1 hh))⟩ (by omega) (by simp) ⟨[],rfl⟩ (by simp) (by simp)
         | false =>
          rw[hh]at c2
          have hno:E=false:=by
           cases hEb:E with
           | false=>rfl
           | true =>
            rcases(hiff.1 hEb).may (i*n+a) (by rw[←hne,←hme];exact hlt) with h5 | h5
            ·rw[hvt,hvu2,←hz]at h5;exact absurd h5 hq
            ·rw[hcr,←bW,hh]at h5;cases h5
          refine wx ?_;simp -implicitDefEqProofs -dsimp[hat,hit,hiu,hrw',hru',aL,LV,hva,hva2,hve',hwe',ap,LS,LR,LC];refine .inr ⟨aI (by kernel_rfl),?_⟩;refine ae _ (aF (c1) (by simp)) ?_;simp -implicitDefEqProofs -dsimp[hq,hit,hrw',aL,LV,LS,LR,LC];refine ae _ (aF (c2) (by simp)) ?_;simp -implicitDefEqProofs -dsimp[hq,LS,LR,LC];refine hQ2 _ _ _ ?_;simp -implicitDefEqProofs -dsimp[LS,LR,LC];refine hQ _ _ _ ?_;simp -implicitDefEqProofs -dsimp[LS,LR,LC];exact hno
       ·obtain rfl:n=a:=by omega
        refine wx ?_;simp -implicitDefEqProofs -dsimp[show ¬n<t.attrs.length by omega,LS,LR,LC];refine hQ2 _ _ _ ?_;simp -implicitDefEqProofs -dsimp[aJ i (by omega),LS,LR,LC];refine hN (i+1) _ _ ⟨by omega,fun j hj h h2=>?_,fun x hx=>hmay2 x (by rw[Nat.add_mul]at hx;omega)⟩ (by omega) (by simp) ⟨[],rfl⟩ (by simp) (by simp)
        rcases Nat.lt_or_ge j i with h1 | h1
        ·exact hids j h1 h h2
        ·have hji:j=i:=by omega
         subst hji;rw[hru',hrw'];exact hid
      ·have hno:E=false:=by
        cases hEb:E with
        | false=>rfl
        | true=>exact absurd (by rw[hru,hrw];exact(hiff.1 hEb).ids i hiu hit) hid
       refine wx ?_;simp -implicitDefEqProofs -dsimp[hit,hiu,hrw',hru',aL,LV,hid,LS,LR,LC];refine .inr ⟨aI (by kernel_rfl),?_⟩;refine hQ _ _ _ ?_;simp -implicitDefEqProofs -dsimp[LS,LR,LC];exact hno
     ·obtain rfl:m=i:=by omega
      have hyes:E=true:=hiff.2 ⟨fun j h h2=>hids j (by omega) h h2,fun x hx=>hmay x (by rw[hme',hne']at hx;exact hx)⟩;refine wx ?_;simp -implicitDefEqProofs -dsimp[show ¬m<t.rows.length by omega,LS,LR,LC];refine hQ _ _ _ ?_;simp -implicitDefEqProofs -dsimp[LS,LR,LC];exact hyes
    ·rw[decide_eq_false h3,Bool.false_and];refine aC (aD tok Tryz.func69 rfl rfl ?_);refine wx ?_;simp -implicitDefEqProofs -dsimp[Tryz.f69,List.replicate,aG,LS,LR,LC];refine(aF (cv) (by simp)).mono ?_;rintro r H' ⟨rfl,rfl⟩;simp -implicitDefEqProofs -dsimp[h1,LS,LR,LC];refine(aF (cs) (by simp)).mono ?_;rintro r H' ⟨rfl,rfl⟩;simp -implicitDefEqProofs -dsimp[h3,show ¬((u.rows.length:Int)=t.rows.length) by omega,LS,LR,LC]
 ·rw[decide_eq_false h0,Bool.false_and];refine aC (aD tok Tryz.func69 rfl rfl ?_);refine wx ?_;simp -implicitDefEqProofs -dsimp[Tryz.f69,List.replicate,aG,LS,LR,LC];refine(aF (cv) (by simp)).mono ?_;rintro r H' ⟨rfl,rfl⟩;simp -implicitDefEqProofs -dsimp[h0,LS,LR,LC]
end
structure Upd where
 cells:List Cr
 tab:Tb
 cores:List (List Cr)
 prf:List Nde
def aV(u:Upd):V:=.agg [LC false u.cells,.str u.tab.name,LS false u.tab.attrs,LR false u.tab.rows,LLC false false u.cores,LNd false u.prf]
structure UpdOk (u:Upd):Prop where
 tab:TbOk u.tab
 cells:u.cells.length≤100000
 cn:u.cores.length≤100000
 cl:∀K∈u.cores,K.length≤100000
 cf:u.cores.flatten.length≤1000000
 prf:u.prf.length≤1000000
noncomputable def nO(t:Tb)(fds:List Fd)(cores:List (List Cr))(j:Nat):Bool:=decide (dO t fds (cores.getD j [])=0)&&lX t fds (cores.getD j [])&&(decide (j=0)||decide (au (cores.getD (j-1) []) (cores.getD j [])<0))
noncomputable def corB(t:Tb)(fds:List Fd)(cores:List (List Cr)):Bool:=(List.range cores.length).all (nO t fds cores)
noncomputable def prfB(u:Upd):Bool:=fJ (aX (vsC u.cores).length) (u.cores.map fun K=>K.map (eG (vsC u.cores))) u.cells.length u.prf
noncomputable def mb(t:Tb)(fds:List Fd)(u:Upd):Bool :=
 if dO t fds u.cells≠0 then false else if validT u.tab≠0 then false else if gR t u.tab=false then false else
  if(bT t u.tab (t.rows.length*t.attrs.length)).all (bsF u.cells)=false then false else if corB t fds u.cores=false then false else okB (aS u.tab fds [])&&prfB u
theorem pO(n j:Nat)(h:j<n):(List.range n).drop j=j::(List.range n).drop (j+1):=by
 have:=List.drop_eq_getElem_cons (l:=List.range n) (i:=j) (by simpa using h)
 rwa [List.getElem_range]at this
theorem enough_nil(t:Tb)(ff gg df:Bool)(fds:List Fd)(hv:TbV t)(hF:bU fds):aR Tryz.prog 44 [aG ff gg t,LF df fds,.nilS] fun r=>r = .bool (okB (aS t fds [])):=by
 refine nQ (qI t ff gg df false fds [] hv hF (by simp[aY]) (by simp)) rfl (fun i a b ha hb=>?_)
 match i with
 | 0=>simp at ha hb;subst ha;subst hb;exact .refl _
 | 1=>simp at ha hb;subst ha;subst hb;exact .refl _
 | 2=>simp at ha hb;subst ha;subst hb;exact .nil _ _
 | k+3=>simp at ha
theorem Check_u(t:Tb)(ff gg df:Bool)(fds:List Fd)(u:Upd)(hv:TbV t)(hF:bU fds)(hu:UpdOk u):aR Tryz.prog 30 [aG ff gg t,LF df fds,aV u] fun r=>r = .bool (mb t fds u):=by
 have ht:=hv.ok;obtain⟨hut,hucl,hucn,hucK,hucf,hup⟩:=hu;have c1:=oh t ff gg df false fds u.cells ht hF (by omega);have c2:=oz u.tab false false hut;have c3:=alike_u t u.tab ff gg false false ht.attrs ht.rows hut.rows;simp only[aG,LS,LR,LC,LF]at c1 c2 c3;by_cases h1:dO t fds u.cells=0
 ·rw[h1]at c1;by_cases h2:validT u.tab=0
  ·rw[h2]at c2
   cases h3:gR t u.tab with
   | false =>
    rw[show mb t fds u=false by unfold mb;rw[if_neg (by simp[h1]),if_neg (by simp[h2]),if_pos h3]];rw[h3]at c3;refine aC (aD tok Tryz.func30 rfl rfl ?_);refine wx ?_;simp -implicitDefEqProofs -dsimp[Tryz.f30,List.replicate,aG,LS,LR,LC,LF,aV,LLC,LNd];refine(aF (c1) (by simp)).mono ?_;rintro r H' ⟨rfl,rfl⟩;simp -implicitDefEqProofs -dsimp[aG,LS,LR,LC,LF,aV,LLC,LNd];refine(aF (c2) (by simp)).mono ?_;rintro r H' ⟨rfl,rfl⟩;simp -implicitDefEqProofs -dsimp[aG,LS,LR,LC,LF,aV,LLC,LNd];refine(aF (c3) (by simp)).mono ?_;rintro r H' ⟨rfl,rfl⟩;simp -implicitDefEqProofs -dsimp[aG,LS,LR,LC,LF,aV,LLC,LNd]
   | true =>
    rw[h3]at c3;have huv:=jS hut h2
    have ha3:u.tab.attrs.length=t.attrs.length∧u.tab.rows.length=t.rows.length:=by
     unfold gR at h3;simp only[Bool.and_eq_true]at h3;refine⟨(eqSs_len h3.1.2).symm,?_⟩;by_cases hl:t.rows.length=u.tab.rows.length
     ·exact hl.symm
     ·rw[ln _ _ hl]at h3;simp at h3
    have c4:=nw t u.tab ff gg false false hv ha3.1 ha3.2 (fun r hr=>by rw[huv.len r hr,ha3.1]);have c5:=problem_u u.cores false hucn hucK hucf;have c6:=enough_nil u.tab false false df fds huv hF;obtain⟨D,hD⟩:∃D,D=bT t u.tab (t.rows.length*t.attrs.length):=⟨_,rfl⟩
    have hDl:D.length≤1000000:=by rw[hD];exact Nat.le_trans (nL _ _ _) (ec hv)
    rw[←hD]at c4;obtain⟨dB,hdB⟩:∃b,b=D.all (bsF u.cells):=⟨_,rfl⟩;obtain⟨cB,hcB⟩:∃b,b=corB t fds u.cores:=⟨_,rfl⟩;obtain⟨E,hE⟩:∃b,b=mb t fds u:=⟨_,rfl⟩
    have hE0:E=if dB=false then false else if cB=false then false else okB (aS u.tab fds [])&&prfB u:=by
     rw[hE];unfold mb;rw[if_neg (by simp[h1]),if_neg (by simp[h2]),if_neg (by simp[h3]),←hD,←hdB,←hcB]
    rw[←hE];clear hE;simp only[aG,LS,LR,LC,LF,LLC]at c4 c5 c6;refine aC (aD tok Tryz.func30 rfl rfl ?_);refine wx ?_;simp -implicitDefEqProofs -dsimp[Tryz.f30,List.replicate,aG,LS,LR,LC,LF,aV,LLC,LNd];refine(aF (c1) (by simp)).mono ?_;rintro r H' ⟨rfl,rfl⟩;simp -implicitDefEqProofs -dsimp[aG,LS,LR,LC,LF,aV,LLC,LNd];refine(aF (c2) (by simp)).mono ?_;rintro r H' ⟨rfl,rfl⟩;simp -implicitDefEqProofs -dsimp[aG,LS,LR,LC,LF,aV,LLC,LNd];refine(aF (c3) (by simp)).mono ?_;rintro r H' ⟨rfl,rfl⟩;simp -implicitDefEqProofs -dsimp[aG,LS,LR,LC,LF,aV,LLC,LNd];refine(aF (c4) (by simp)).mono ?_;rintro r H' ⟨rfl,rfl⟩;simp -implicitDefEqProofs -dsimp[aG,LS,LR,LC,LF,aV,LLC,LNd];refine aK (W_loopM 53 [6,8,9,10,39,40,41,42,43,44,45,46,47,48,49,50,51,52] (by simp[mB]<;>rfl) (σ:=Nat) (fun i=>i≤D.length∧(D.drop i).all (bsF u.cells)=dB) (fun i=>D.length-i) (fun i=>[(39,.int .i64 i)]) (fun _=>[B.cells [.str t.name,.lst 1 ff (t.attrs.map V.str),.lst 2 gg (t.rows.map aL)],B.cells [.lst 2 false (u.cells.map aN),.str u.tab.name,.lst 1 false (u.tab.attrs.map V.str),.lst 2 false (u.tab.rows.map aL),.lst 1 false (u.cores.map (LC false)),.lst 2 false (u.prf.map aa)]]) 0 ⟨by omega,by rw[List.drop_zero,hdB]⟩ (by simp) rfl (by simp) ?_);rintro i ⟨hi,hx⟩ N Q hN hQ;by_cases hb:i<D.length
    ·rw[List.drop_eq_getElem_cons hb,List.all_cons]at hx;obtain⟨c,hc⟩:∃c,c=D[i]:=⟨_,rfl⟩;rw[←hc]at hx;have hcb:=iY u.cells c false (by omega);simp only[LC,aN]at hcb
     cases hq:bsF u.cells c with
     | true =>
      rw[hq,Bool.true_and]at hx;rw[hq]at hcb;refine wx ?_;simp -implicitDefEqProofs -dsimp[hb,hc.symm,aN,show(i:Int)<D.length by omega,aG,LS,LR,LC,LF,aV,LLC,LNd];refine(aF (hcb) (by simp)).mono ?_;rintro r H' ⟨rfl,rfl⟩;simp -implicitDefEqProofs -dsimp[aJ i (by omega),aG,LS,LR,LC,LF,aV,LLC,LNd];refine hN (i+1) _ _ ⟨by omega,hx⟩ (by omega) (by simp) ⟨_,rfl⟩ (by simp) (by simp)
     | false =>
      rw[hq,Bool.false_and]at hx;rw[hq]at hcb;refine wx ?_;simp -implicitDefEqProofs -dsimp[hb,hc.symm,aN,show(i:Int)<D.length by omega,aG,LS,LR,LC,LF,aV,LLC,LNd];refine(aF (hcb) (by simp)).mono ?_;rintro r H' ⟨rfl,rfl⟩;simp -implicitDefEqProofs -dsimp[aG,LS,LR,LC,LF,aV,LLC,LNd];refine hQ _ _ _ ?_;simp -implicitDefEqProofs -dsimp[aG,LS,LR,LC,LF,aV,LLC,LNd];rw[hE0,if_pos hx.symm]
    ·rw[List.drop_of_length_le (by omega),List.all_nil]at hx;rw[if_neg (by rw[←hx];simp)]at hE0;refine wx ?_;simp -implicitDefEqProofs -dsimp[hb,show ¬(i:Int)<D.length by omega,aG,LS,LR,LC,LF,aV,LLC,LNd];refine hQ _ _ _ ?_;simp -implicitDefEqProofs -dsimp[aG,LS,LR,LC,LF,aV,LLC,LNd];obtain⟨n,hn⟩:∃n,u.cores.length=n:=⟨_,rfl⟩;refine aK (W_loopM 89 [6,11,12,56,57,58,59,60,61,62,63,64,65,66,67,68,69,70,71,72,73,74,75,76,77,78,79,80,81,82,83,84,85,86,87,88] (by simp[mB]<;>rfl) (σ:=Nat) (fun j=>j≤n∧((List.range n).drop j).all (nO t fds u.cores)=cB) (fun j=>n-j) (fun j=>[(56,.int .i64 j)]) (fun _=>[B.cells [.str t.name,.lst 1 ff (t.attrs.map V.str),.lst 2 gg (t.rows.map aL)],B.cells [.lst 2 false (u.cells.map aN),.str u.tab.name,.lst 1 false (u.tab.attrs.map V.str),.lst 2 false (u.tab.rows.map aL),.lst 1 false (u.cores.map (LC false)),.lst 2 false (u.prf.map aa)]]) 0 ⟨by omega,by rw[List.drop_zero,hcB,←hn];rfl⟩ (by simp) rfl (by simp) ?_);rintro j ⟨hj,hy⟩ N2 Q2 hN2 hQ2;by_cases hbj:j<n
     ·have hbc:j<u.cores.length:=by omega
      obtain⟨K,hKe⟩:∃K,K=u.cores[j]:=⟨_,rfl⟩
      have hKl:K.length≤100000:=by rw[hKe];exact hucK _ (List.getElem_mem _)
      have hKd:u.cores.getD j []=K:=by rw[hKe];simp[hbc]
      have hy0:=hy;rw[pO n j hbj,List.all_cons]at hy
      have hf:nO t fds u.cores j=false→E=false:=fun h=>by
       rw[h,Bool.false_and]at hy;rw[hE0,if_pos hy.symm]
      have hg:nO t fds u.cores j=true→((List.range n).drop (j+1)).all (nO t fds u.cores)=cB:=fun h=>by
       rw[h,Bool.true_and]at hy;exact hy
      clear hy hy0;unfold nO at hf hg;rw[hKd]at hf hg;have d1:=oh t ff gg df false fds K ht hF (by omega);simp only[aG,LS,LR,LC,LF]at d1;by_cases k1:dO t fds K=0
      ·rw[k1]at d1;have hs:=(kO ht k1).2.2.2.1;have d2:=nh t ff gg df false fds K hv hF hs (by omega);simp only[aG,LS,LR,LC,LF]at d2
       cases k2:lX t fds K with
       | true =>
        rw[k2]at d2;rw[k1,k2]at hf hg;by_cases k3:j=0
        ·subst k3;have hg:=hg (by simp);refine wx ?_;simp -implicitDefEqProofs -dsimp[hbj,hbc,hn,hKe.symm,aG,LS,LR,LC,LF,aV,LLC,LNd];refine(aF (d1) (by simp)).mono ?_;rintro r H' ⟨rfl,rfl⟩;simp -implicitDefEqProofs -dsimp[aG,LS,LR,LC,LF,aV,LLC,LNd];refine(aF (d2) (by simp)).mono ?_;rintro r H' ⟨rfl,rfl⟩;simp -implicitDefEqProofs -dsimp[show IntKind.i64.wrap (1:Int)=1 from wrap64 (by omega) (by omega),aG,LS,LR,LC,LF,aV,LLC,LNd];refine hN2 1 _ _ ⟨by omega,hg⟩ (by omega) (by simp[hn]) ⟨[],rfl⟩ (by simp) (by simp)
        ·obtain⟨p,hjp⟩:∃p,j=p+1:=⟨j-1,by omega⟩;obtain⟨K',hKe'⟩:∃K',K'=u.cores[p]:=⟨_,rfl⟩
         have hKl':K'.length≤100000:=by rw[hKe'];exact hucK _ (List.getElem_mem _)
         have hKd':u.cores.getD p []=K':=by rw[hKe'];simp[show p<u.cores.length by omega]
         rw[show j-1=p by omega,hKd']at hf hg;have d3:=lists_u K' K false false (by omega) (by omega);simp only[LC]at d3
         have wp:IntKind.i64.wrap ((j:Int)-1)=(p:Int):=by rw[wrap64 (by omega) (by omega)];omega
         have wp1:IntKind.i64.wrap (p:Int)=(p:Int):=iD p (by omega)
         have hp:p<u.cores.length:=by omega
         obtain⟨z,hz⟩:∃z,z=au K' K:=⟨_,rfl⟩;rw[←hz]at d3 hf hg;by_cases k4:z<0
         ·have hg:=hg (by simp[k4]);refine wx ?_;simp -implicitDefEqProofs -dsimp[hbj,hbc,hn,hKe.symm,aG,LS,LR,LC,LF,aV,LLC,LNd];refine(aF (d1) (by simp)).mono ?_;rintro r H' ⟨rfl,rfl⟩;simp -implicitDefEqProofs -dsimp[aG,LS,LR,LC,LF,aV,LLC,LNd];refine(aF (d2) (by simp)).mono ?_;rintro r H' ⟨rfl,rfl⟩;simp -implicitDefEqProofs -dsimp[wp,wp1,hKe'.symm,hp,hn,show p<n by omega,show(0:Int)<(j:Int) by omega,show 0<j by omega,aG,LS,LR,LC,LF,aV,LLC,LNd];refine(aF (d3) (by simp)).mono ?_;rintro r H' ⟨rfl,rfl⟩;simp -implicitDefEqProofs -dsimp[k4,aJ j (by omega),show ¬0≤z by omega,aG,LS,LR,LC,LF,aV,LLC,LNd];refine hN2 (j+1) _ _ ⟨by omega,hg⟩ (by omega) (by simp[hn]) ⟨[],rfl⟩ (by simp) (by simp)
         ·have hf:=hf (by simp[k4,k3]);refine wx ?_;simp -implicitDefEqProofs -dsimp[hbj,hbc,hn,hKe.symm,aG,LS,LR,LC,LF,aV,LLC,LNd];refine(aF (d1) (by simp)).mono ?_;rintro r H' ⟨rfl,rfl⟩;simp -implicitDefEqProofs -dsimp[aG,LS,LR,LC,LF,aV,LLC,LNd];refine(aF (d2) (by simp)).mono ?_;rintro r H' ⟨rfl,rfl⟩;simp -implicitDefEqProofs -dsimp[wp,wp1,hKe'.symm,hp,hn,show p<n by omega,show(0:Int)<(j:Int) by omega,show 0<j by omega,aG,LS,LR,LC,LF,aV,LLC,LNd];refine(aF (d3) (by simp)).mono ?_;rintro r H' ⟨rfl,rfl⟩;simp -implicitDefEqProofs -dsimp[k4,show 0≤z by omega,aG,LS,LR,LC,LF,aV,LLC,LNd];refine hQ2 _ _ _ ?_;simp -implicitDefEqProofs -dsimp[aG,LS,LR,LC,LF,aV,LLC,LNd];exact hf
       | false =>
        rw[k2]at d2;rw[k1,k2]at hf;have hf:=hf (by simp);refine wx ?_;simp -implicitDefEqProofs -dsimp[hbj,hbc,hn,hKe.symm,aG,LS,LR,LC,LF,aV,LLC,LNd];refine(aF (d1) (by simp)).mono ?_;rintro r H' ⟨rfl,rfl⟩;simp -implicitDefEqProofs -dsimp[aG,LS,LR,LC,LF,aV,LLC,LNd];refine(aF (d2) (by simp)).mono ?_;rintro r H' ⟨rfl,rfl⟩;simp -implicitDefEqProofs -dsimp[aG,LS,LR,LC,LF,aV,LLC,LNd];refine hQ2 _ _ _ ?_;simp -implicitDefEqProofs -dsimp[aG,LS,LR,LC,LF,aV,LLC,LNd];exact hf
      ·have hf:=hf (by simp[k1]);refine wx ?_;simp -implicitDefEqProofs -dsimp[hbj,hbc,hn,hKe.symm,aG,LS,LR,LC,LF,aV,LLC,LNd];refine(aF (d1) (by simp)).mono ?_;rintro r H' ⟨rfl,rfl⟩;simp -implicitDefEqProofs -dsimp[k1,aG,LS,LR,LC,LF,aV,LLC,LNd];refine hQ2 _ _ _ ?_;simp -implicitDefEqProofs -dsimp[aG,LS,LR,LC,LF,aV,LLC,LNd];exact hf
     ·rw[List.drop_of_length_le (by simp;omega),List.all_nil]at hy;rw[if_neg (by rw[←hy];simp)]at hE0;have c7:=hsCheck (aX (vsC u.cores).length) (u.cores.map fun K=>K.map (eG (vsC u.cores))) false false false (u.cells.length:Int) u.prf (fun e he=>by obtain⟨K,hK,rfl⟩:=List.mem_map.1 he;rw[List.length_map];have:=hucK K hK;omega) hup;unfold PRB at c5;simp only[ab,L1,LLn,LNd,LC,List.map_map]at c5 c7
      cases hok:okB (aS u.tab fds []) with
      | true =>
       rw[hok]at c6 hE0;rw[Bool.true_and]at hE0;unfold prfB at hE0;rw[←hE0]at c7;refine wx ?_;simp -implicitDefEqProofs -dsimp[hbj,hn,aG,LS,LR,LC,LF,aV,LLC,LNd];refine hQ2 _ _ _ ?_;simp -implicitDefEqProofs -dsimp[aG,LS,LR,LC,LF,aV,LLC,LNd];refine(aF (c5) (by simp)).mono ?_;rintro r H' ⟨rfl,rfl⟩;simp -implicitDefEqProofs -dsimp[aG,LS,LR,LC,LF,aV,LLC,LNd];refine(aF (c6) (by simp)).mono ?_;rintro r H' ⟨rfl,rfl⟩;simp -implicitDefEqProofs -dsimp[iD u.cells.length (by omega),aG,LS,LR,LC,LF,aV,LLC,LNd];refine(aF (c7) (by simp)).mono ?_;rintro r H' ⟨rfl,rfl⟩;simp -implicitDefEqProofs -dsimp[aG,LS,LR,LC,LF,aV,LLC,LNd]
      | false =>
       rw[hok]at c6 hE0;rw[Bool.false_and]at hE0;refine wx ?_;simp -implicitDefEqProofs -dsimp[hbj,hn,aG,LS,LR,LC,LF,aV,LLC,LNd];refine hQ2 _ _ _ ?_;simp -implicitDefEqProofs -dsimp[aG,LS,LR,LC,LF,aV,LLC,LNd];refine(aF (c5) (by simp)).mono ?_;rintro r H' ⟨rfl,rfl⟩;simp -implicitDefEqProofs -dsimp[aG,LS,LR,LC,LF,aV,LLC,LNd];refine(aF (c6) (by simp)).mono ?_;rintro r H' ⟨rfl,rfl⟩;simp -implicitDefEqProofs -dsimp[aG,LS,LR,LC,LF,aV,LLC,LNd];exact hE0
  ·rw[show mb t fds u=false by unfold mb;rw[if_neg (by simp[h1]),if_pos h2]];refine aC (aD tok Tryz.func30 rfl rfl ?_);refine wx ?_;simp -implicitDefEqProofs -dsimp[Tryz.f30,List.replicate,aG,LS,LR,LC,LF,aV,LLC,LNd];refine(aF (c1) (by simp)).mono ?_;rintro r H' ⟨rfl,rfl⟩;simp -implicitDefEqProofs -dsimp[aG,LS,LR,LC,LF,aV,LLC,LNd];refine(aF (c2) (by simp)).mono ?_;rintro r H' ⟨rfl,rfl⟩;simp -implicitDefEqProofs -dsimp[h2,aG,LS,LR,LC,LF,aV,LLC,LNd]
 ·rw[show mb t fds u=false by unfold mb;rw[if_pos h1]];refine aC (aD tok Tryz.func30 rfl rfl ?_);refine wx ?_;simp -implicitDefEqProofs -dsimp[Tryz.f30,List.replicate,aG,LS,LR,LC,LF,aV,LLC,LNd];refine(aF (c1) (by simp)).mono ?_;rintro r H' ⟨rfl,rfl⟩;simp -implicitDefEqProofs -dsimp[h1,aG,LS,LR,LC,LF,aV,LLC,LNd]
def clA52:List V:=[.agg [.str ⟨#[114]⟩,.lst 1 true [.str ⟨#[97]⟩,.str ⟨#[98]⟩],.lst 2 false [.agg [.int .i64 1,.lst 3 false [.agg [.int .i64 1,.int .i64 1,.str ⟨#[]⟩],.agg [.int .i64 1,.int .i64 1,.str ⟨#[]⟩]]],.agg [.int .i64 2,.lst 3 false [.agg [.int .i64 1,.int .i64 1,.str ⟨#[]⟩],.agg [.int .i64 1,.int .i64 2,.str ⟨#[]⟩]]]]],.lst 2 true [.agg [.int .u32 1,.int .u32 2]],.lst 2 false [.agg [.int .i64 2,.int .i64 1]]]
def clR52:V:=.tup [.agg [.str ⟨#[114]⟩,.lst 1 false [.str ⟨#[97]⟩,.str ⟨#[98]⟩],.lst 2 false [.agg [.int .i64 1,.lst 3 false [.agg [.int .i64 1,.int .i64 1,.str ⟨#[]⟩],.agg [.int .i64 1,.int .i64 1,.str ⟨#[]⟩]]],.agg [.int .i64 2,.lst 3 false [.agg [.int .i64 1,.int .i64 1,.str ⟨#[]⟩],.agg [.int .i64 1,.int .i64 1,.str ⟨#[]⟩]]]]],.int .i64 0]
theorem clP52:AM.Pure clR52:=by simp[clR52]
theorem clQ52:∀a∈clA52,AM.Pure a:=by simp[clA52]
theorem cl52:aR Tryz.prog 22 clA52 fun x=>x=clR52:=aH tok mixed ai aj (fuel:=1000) (d:=40) (by kernel_rfl) clP52
def clA39:List V:=[.agg [.str ⟨#[114]⟩,.lst 1 true [.str ⟨#[97]⟩,.str ⟨#[98]⟩],.lst 2 false [.agg [.int .i64 1,.lst 3 false [.agg [.int .i64 1,.int .i64 1,.str ⟨#[]⟩],.agg [.int .i64 1,.int .i64 1,.str ⟨#[]⟩]]],.agg [.int .i64 2,.lst 3 false [.agg [.int .i64 1,.int .i64 1,.str ⟨#[]⟩],.agg [.int .i64 1,.int .i64 2,.str ⟨#[]⟩]]]]],.lst 2 true [.agg [.int .u32 0,.int .u32 2]],.lst 2 false [.agg [.int .i64 1,.int .i64 0],.agg [.int .i64 2,.int .i64 0]]]
def clR39:V:=.bool false
theorem clP39:AM.Pure clR39:=by simp[clR39]
theorem clQ39:∀a∈clA39,AM.Pure a:=by simp[clA39]
theorem cl39:aR Tryz.prog 44 clA39 fun x=>x=clR39:=aH tok mixed ai aj (fuel:=1000) (d:=40) (by kernel_rfl) clP39
def clA19:List V:=[.agg [.str ⟨#[114]⟩,.lst 1 true [.str ⟨#[97]⟩,.str ⟨#[98]⟩],.lst 2 false [.agg [.int .i64 1,.lst 3 false [.agg [.int .i64 1,.int .i64 1,.str ⟨#[]⟩],.agg [.int .i64 1,.int .i64 1,.str ⟨#[]⟩]]],.agg [.int .i64 2,.lst 3 false [.agg [.int .i64 1,.int .i64 1,.str ⟨#[]⟩],.agg [.int .i64 1,.int .i64 2,.str ⟨#[]⟩]]]]],.lst 2 false [.agg [.int .i64 1,.int .i64 0],.agg [.int .i64 1,.int .i64 1],.agg [.int .i64 2,.int .i64 1]]]
def clR19:V:=.lst 2 false [.agg [.int .i64 2,.int .i64 0]]
theorem clP19:AM.Pure clR19:=by simp[clR19]
theorem clQ19:∀a∈clA19,AM.Pure a:=by simp[clA19]
theorem cl19:aR Tryz.prog 66 clA19 fun x=>x=clR19:=aH tok mixed ai aj (fuel:=1000) (d:=40) (by kernel_rfl) clP19
def clA11:List V:=[.agg [.str ⟨#[114]⟩,.lst 1 true [.str ⟨#[97]⟩,.str ⟨#[98]⟩],.lst 2 false [.agg [.int .i64 1,.lst 3 false [.agg [.int .i64 1,.int .i64 1,.str ⟨#[]⟩],.agg [.int .i64 1,.int .i64 1,.str ⟨#[]⟩]]],.agg [.int .i64 2,.lst 3 false [.agg [.int .i64 1,.int .i64 1,.str ⟨#[]⟩],.agg [.int .i64 1,.int .i64 2,.str ⟨#[]⟩]]]]],.lst 2 false [.agg [.int .i64 1,.int .i64 1],.agg [.int .i64 2,.int .i64 0],.agg [.int .i64 2,.int .i64 1]]]
def clR11:V:=.lst 2 false [.agg [.int .i64 1,.int .i64 0]]
theorem clP11:AM.Pure clR11:=by simp[clR11]
theorem clQ11:∀a∈clA11,AM.Pure a:=by simp[clA11]
theorem cl11:aR Tryz.prog 66 clA11 fun x=>x=clR11:=aH tok mixed ai aj (fuel:=1000) (d:=40) (by kernel_rfl) clP11
def clA15:List V:=[.agg [.str ⟨#[114]⟩,.lst 1 true [.str ⟨#[97]⟩,.str ⟨#[98]⟩],.lst 2 false [.agg [.int .i64 1,.lst 3 false [.agg [.int .i64 1,.int .i64 1,.str ⟨#[]⟩],.agg [.int .i64 1,.int .i64 1,.str ⟨#[]⟩]]],.agg [.int .i64 2,.lst 3 false [.agg [.int .i64 1,.int .i64 1,.str ⟨#[]⟩],.agg [.int .i64 1,.int .i64 2,.str ⟨#[]⟩]]]]],.lst 2 false [.agg [.int .i64 1,.int .i64 0],.agg [.int .i64 2,.int .i64 0],.agg [.int .i64 2,.int .i64 1]]]
def clR15:V:=.lst 2 false [.agg [.int .i64 1,.int .i64 1]]
theorem clP15:AM.Pure clR15:=by simp[clR15]
theorem clQ15:∀a∈clA15,AM.Pure a:=by simp[clA15]
theorem cl15:aR Tryz.prog 66 clA15 fun x=>x=clR15:=aH tok mixed ai aj (fuel:=1000) (d:=40) (by kernel_rfl) clP15
def clA23:List V:=[.agg [.str ⟨#[114]⟩,.lst 1 true [.str ⟨#[97]⟩,.str ⟨#[98]⟩],.lst 2 false [.agg [.int .i64 1,.lst 3 false [.agg [.int .i64 1,.int .i64 1,.str ⟨#[]⟩],.agg [.int .i64 1,.int .i64 1,.str ⟨#[]⟩]]],.agg [.int .i64 2,.lst 3 false [.agg [.int .i64 1,.int .i64 1,.str ⟨#[]⟩],.agg [.int .i64 1,.int .i64 2,.str ⟨#[]⟩]]]]],.lst 2 false [.agg [.int .i64 1,.int .i64 0],.agg [.int .i64 1,.int .i64 1],.agg [.int .i64 2,.int .i64 0]]]
def clR23:V:=.lst 2 false [.agg [.int .i64 2,.int .i64 1]]
theorem clP23:AM.Pure clR23:=by simp[clR23]
theorem clQ23:∀a∈clA23,AM.Pure a:=by simp[clA23]
theorem cl23:aR Tryz.prog 66 clA23 fun x=>x=clR23:=aH tok mixed ai aj (fuel:=1000) (d:=40) (by kernel_rfl) clP23
def clA8:List V:=[.agg [.str ⟨#[114]⟩,.lst 1 true [.str ⟨#[97]⟩,.str ⟨#[98]⟩],.lst 2 false [.agg [.int .i64 1,.lst 3 false [.agg [.int .i64 1,.int .i64 1,.str ⟨#[]⟩],.agg [.int .i64 1,.int .i64 1,.str ⟨#[]⟩]]],.agg [.int .i64 2,.lst 3 false [.agg [.int .i64 1,.int .i64 1,.str ⟨#[]⟩],.agg [.int .i64 1,.int .i64 2,.str ⟨#[]⟩]]]]],.lst 2 true [.agg [.int .u32 1,.int .u32 2]],.nilS]
def clR8:V:=.bool false
theorem clP8:AM.Pure clR8:=by simp[clR8]
theorem clQ8:∀a∈clA8,AM.Pure a:=by simp[clA8]
theorem cl8:aR Tryz.prog 44 clA8 fun x=>x=clR8:=aH tok mixed ai aj (fuel:=1000) (d:=40) (by kernel_rfl) clP8
def clA42:List V:=[.agg [.str ⟨#[114]⟩,.lst 1 true [.str ⟨#[97]⟩,.str ⟨#[98]⟩],.lst 2 false [.agg [.int .i64 1,.lst 3 false [.agg [.int .i64 1,.int .i64 1,.str ⟨#[]⟩],.agg [.int .i64 1,.int .i64 1,.str ⟨#[]⟩]]],.agg [.int .i64 2,.lst 3 false [.agg [.int .i64 1,.int .i64 1,.str ⟨#[]⟩],.agg [.int .i64 1,.int .i64 2,.str ⟨#[]⟩]]]]],.lst 2 false [.agg [.int .i64 1,.int .i64 1]]]
def clR42:V:=.lst 2 false [.agg [.int .i64 1,.int .i64 0],.agg [.int .i64 2,.int .i64 0],.agg [.int .i64 2,.int .i64 1]]
theorem clP42:AM.Pure clR42:=by simp[clR42]
theorem clQ42:∀a∈clA42,AM.Pure a:=by simp[clA42]
theorem cl42:aR Tryz.prog 66 clA42 fun x=>x=clR42:=aH tok mixed ai aj (fuel:=1000) (d:=40) (by kernel_rfl) clP42
def clA1:List V:=[.agg [.str ⟨#[114]⟩,.lst 1 true [.str ⟨#[97]⟩,.str ⟨#[98]⟩],.lst 2 false [.agg [.int .i64 1,.lst 3 false [.agg [.int .i64 1,.int .i64 1,.str ⟨#[]⟩],.agg [.int .i64 1,.int .i64 1,.str ⟨#[]⟩]]],.agg [.int .i64 2,.lst 3 false [.agg [.int .i64 1,.int .i64 1,.str ⟨#[]⟩],.agg [.int .i64 1,.int .i64 2,.str ⟨#[]⟩]]]]],.lst 2 true [.agg [.int .u32 1,.int .u32 2]],.lst 2 true [.agg [.int .i64 1,.int .i64 1]]]
def clR1:V:=.int .i64 0
theorem clP1:AM.Pure clR1:=by simp[clR1]
theorem clQ1:∀a∈clA1,AM.Pure a:=by simp[clA1]
theorem cl1:aR Tryz.prog 43 clA1 fun x=>x=clR1:=aH tok mixed ai aj (fuel:=1000) (d:=40) (by kernel_rfl) clP1
def clA47:List V:=[.agg [.str ⟨#[114]⟩,.lst 1 true [.str ⟨#[97]⟩,.str ⟨#[98]⟩],.lst 2 false [.agg [.int .i64 1,.lst 3 false [.agg [.int .i64 1,.int .i64 1,.str ⟨#[]⟩],.agg [.int .i64 1,.int .i64 1,.str ⟨#[]⟩]]],.agg [.int .i64 2,.lst 3 false [.agg [.int .i64 1,.int .i64 1,.str ⟨#[]⟩],.agg [.int .i64 1,.int .i64 2,.str ⟨#[]⟩]]]]],.lst 2 true [.agg [.int .u32 1,.int .u32 2]],.nilS]
def clR47:V:=.int .i64 0
theorem clP47:AM.Pure clR47:=by simp[clR47]
theorem clQ47:∀a∈clA47,AM.Pure a:=by simp[clA47]
theorem cl47:aR Tryz.prog 43 clA47 fun x=>x=clR47:=aH tok mixed ai aj (fuel:=1000) (d:=40) (by kernel_rfl) clP47
def clA2:List V:=[.agg [.str ⟨#[114]⟩,.lst 1 true [.str ⟨#[97]⟩,.str ⟨#[98]⟩],.lst 2 false [.agg [.int .i64 1,.lst 3 false [.agg [.int .i64 1,.int .i64 1,.str ⟨#[]⟩],.agg [.int .i64 1,.int .i64 1,.str ⟨#[]⟩]]],.agg [.int .i64 2,.lst 3 false [.agg [.int .i64 1,.int .i64 1,.str ⟨#[]⟩],.agg [.int .i64 1,.int .i64 2,.str ⟨#[]⟩]]]]],.lst 2 true [.agg [.int .u32 1,.int .u32 2]],.lst 2 true [.agg [.int .i64 1,.int .i64 1]]]
def clR2:V:=.tup [.agg [.str ⟨#[114]⟩,.lst 1 false [.str ⟨#[97]⟩,.str ⟨#[98]⟩],.lst 2 false [.agg [.int .i64 1,.lst 3 false [.agg [.int .i64 1,.int .i64 1,.str ⟨#[]⟩],.agg [.int .i64 1,.int .i64 2,.str ⟨#[]⟩]]],.agg [.int .i64 2,.lst 3 false [.agg [.int .i64 1,.int .i64 1,.str ⟨#[]⟩],.agg [.int .i64 1,.int .i64 2,.str ⟨#[]⟩]]]]],.int .i64 0]
theorem clP2:AM.Pure clR2:=by simp[clR2]
theorem clQ2:∀a∈clA2,AM.Pure a:=by simp[clA2]
theorem cl2:aR Tryz.prog 22 clA2 fun x=>x=clR2:=aH tok mixed ai aj (fuel:=1000) (d:=40) (by kernel_rfl) clP2
def clA16:List V:=[.agg [.str ⟨#[114]⟩,.lst 1 true [.str ⟨#[97]⟩,.str ⟨#[98]⟩],.lst 2 false [.agg [.int .i64 1,.lst 3 false [.agg [.int .i64 1,.int .i64 1,.str ⟨#[]⟩],.agg [.int .i64 1,.int .i64 1,.str ⟨#[]⟩]]],.agg [.int .i64 2,.lst 3 false [.agg [.int .i64 1,.int .i64 1,.str ⟨#[]⟩],.agg [.int .i64 1,.int .i64 2,.str ⟨#[]⟩]]]]],.lst 2 true [.agg [.int .u32 1,.int .u32 2]],.lst 2 false [.agg [.int .i64 1,.int .i64 1]]]
def clR16:V:=.bool true
theorem clP16:AM.Pure clR16:=by simp[clR16]
theorem clQ16:∀a∈clA16,AM.Pure a:=by simp[clA16]
theorem cl16:aR Tryz.prog 44 clA16 fun x=>x=clR16:=aH tok mixed ai aj (fuel:=1000) (d:=40) (by kernel_rfl) clP16
def clA35:List V:=[.agg [.str ⟨#[114]⟩,.lst 1 true [.str ⟨#[97]⟩,.str ⟨#[98]⟩],.lst 2 false [.agg [.int .i64 1,.lst 3 false [.agg [.int .i64 1,.int .i64 1,.str ⟨#[]⟩],.agg [.int .i64 1,.int .i64 1,.str ⟨#[]⟩]]],.agg [.int .i64 2,.lst 3 false [.agg [.int .i64 1,.int .i64 1,.str ⟨#[]⟩],.agg [.int .i64 1,.int .i64 2,.str ⟨#[]⟩]]]]],.lst 2 true [.agg [.int .u32 0,.int .u32 2]],.lst 2 false [.agg [.int .i64 1,.int .i64 0],.agg [.int .i64 1,.int .i64 1]]]
def clR35:V:=.bool true
theorem clP35:AM.Pure clR35:=by simp[clR35]
theorem clQ35:∀a∈clA35,AM.Pure a:=by simp[clA35]
theorem cl35:aR Tryz.prog 44 clA35 fun x=>x=clR35:=aH tok mixed ai aj (fuel:=1000) (d:=40) (by kernel_rfl) clP35
def clA38:List V:=[.agg [.str ⟨#[114]⟩,.lst 1 true [.str ⟨#[97]⟩,.str ⟨#[98]⟩],.lst 2 false [.agg [.int .i64 1,.lst 3 false [.agg [.int .i64 1,.int .i64 1,.str ⟨#[]⟩],.agg [.int .i64 1,.int .i64 1,.str ⟨#[]⟩]]],.agg [.int .i64 2,.lst 3 false [.agg [.int .i64 1,.int .i64 1,.str ⟨#[]⟩],.agg [.int .i64 1,.int .i64 2,.str ⟨#[]⟩]]]]],.lst 2 false [.agg [.int .i64 1,.int .i64 1],.agg [.int .i64 2,.int .i64 1]]]
def clR38:V:=.lst 2 false [.agg [.int .i64 1,.int .i64 0],.agg [.int .i64 2,.int .i64 0]]
theorem clP38:AM.Pure clR38:=by simp[clR38]
theorem clQ38:∀a∈clA38,AM.Pure a:=by simp[clA38]
theorem cl38:aR Tryz.prog 66 clA38 fun x=>x=clR38:=aH tok mixed ai aj (fuel:=1000) (d:=40) (by kernel_rfl) clP38
def clA4:List V:=[.agg [.str ⟨#[114]⟩,.lst 1 true [.str ⟨#[97]⟩,.str ⟨#[98]⟩],.lst 2 false [.agg [.int .i64 1,.lst 3 false [.agg [.int .i64 1,.int .i64 1,.str ⟨#[]⟩],.agg [.int .i64 1,.int .i64 1,.str ⟨#[]⟩]]],.agg [.int .i64 2,.lst 3 false [.agg [.int .i64 1,.int .i64 1,.str ⟨#[]⟩],.agg [.int .i64 1,.int .i64 2,.str ⟨#[]⟩]]]]],.lst 2 true [.agg [.int .u32 1,.int .u32 2]],.lst 2 true [.agg [.int .i64 1,.int .i64 0]]]
def clR4:V:=.tup [.agg [.str ⟨#[114]⟩,.lst 1 false [.str ⟨#[97]⟩,.str ⟨#[98]⟩],.lst 2 false [.agg [.int .i64 1,.lst 3 false [.agg [.int .i64 3,.int .i64 1,.str ⟨#[]⟩],.agg [.int .i64 1,.int .i64 1,.str ⟨#[]⟩]]],.agg [.int .i64 2,.lst 3 false [.agg [.int .i64 1,.int .i64 1,.str ⟨#[]⟩],.agg [.int .i64 1,.int .i64 2,.str ⟨#[]⟩]]]]],.int .i64 0]
theorem clP4:AM.Pure clR4:=by simp[clR4]
theorem clQ4:∀a∈clA4,AM.Pure a:=by simp[clA4]
theorem cl4:aR Tryz.prog 22 clA4 fun x=>x=clR4:=aH tok mixed ai aj (fuel:=1000) (d:=40) (by kernel_rfl) clP4
def clA6:List V:=[.agg [.str ⟨#[114]⟩,.lst 1 true [.str ⟨#[97]⟩,.str ⟨#[98]⟩],.lst 2 false [.agg [.int .i64 1,.lst 3 false [.agg [.int .i64 1,.int .i64 1,.str ⟨#[]⟩],.agg [.int .i64 1,.int .i64 1,.str ⟨#[]⟩]]],.agg [.int .i64 2,.lst 3 false [.agg [.int .i64 1,.int .i64 1,.str ⟨#[]⟩],.agg [.int .i64 1,.int .i64 2,.str ⟨#[]⟩]]]]],.lst 2 true [.agg [.int .u32 1,.int .u32 2]],.lst 2 false [.agg [.int .i64 1,.int .i64 0],.agg [.int .i64 1,.int .i64 1],.agg [.int .i64 2,.int .i64 0],.agg [.int .i64 2,.int .i64 1]]]
def clR6:V:=.int .i64 0
theorem clP6:AM.Pure clR6:=by simp[clR6]
theorem clQ6:∀a∈clA6,AM.Pure a:=by simp[clA6]
theorem cl6:aR Tryz.prog 43 clA6 fun x=>x=clR6:=aH tok mixed ai aj (fuel:=1000) (d:=40) (by kernel_rfl) clP6
def clA12:List V:=[.agg [.str ⟨#[114]⟩,.lst 1 true [.str ⟨#[97]⟩,.str ⟨#[98]⟩],.lst 2 false [.agg [.int .i64 1,.lst 3 false [.agg [.int .i64 1,.int .i64 1,.str ⟨#[]⟩],.agg [.int .i64 1,.int .i64 1,.str ⟨#[]⟩]]],.agg [.int .i64 2,.lst 3 false [.agg [.int .i64 1,.int .i64 1,.str ⟨#[]⟩],.agg [.int .i64 1,.int .i64 2,.str ⟨#[]⟩]]]]],.lst 2 true [.agg [.int .u32 1,.int .u32 2]],.lst 2 false [.agg [.int .i64 1,.int .i64 0]]]
def clR12:V:=.bool true
theorem clP12:AM.Pure clR12:=by simp[clR12]
theorem clQ12:∀a∈clA12,AM.Pure a:=by simp[clA12]
theorem cl12:aR Tryz.prog 44 clA12 fun x=>x=clR12:=aH tok mixed ai aj (fuel:=1000) (d:=40) (by kernel_rfl) clP12
def clA29:List V:=[.agg [.str ⟨#[114]⟩,.lst 1 true [.str ⟨#[97]⟩,.str ⟨#[98]⟩],.lst 2 false [.agg [.int .i64 1,.lst 3 false [.agg [.int .i64 1,.int .i64 1,.str ⟨#[]⟩],.agg [.int .i64 1,.int .i64 1,.str ⟨#[]⟩]]],.agg [.int .i64 2,.lst 3 false [.agg [.int .i64 1,.int .i64 1,.str ⟨#[]⟩],.agg [.int .i64 1,.int .i64 2,.str ⟨#[]⟩]]]]],.lst 2 true [.agg [.int .u32 0,.int .u32 2]],.nilS]
def clR29:V:=.bool false
theorem clP29:AM.Pure clR29:=by simp[clR29]
theorem clQ29:∀a∈clA29,AM.Pure a:=by simp[clA29]
theorem cl29:aR Tryz.prog 44 clA29 fun x=>x=clR29:=aH tok mixed ai aj (fuel:=1000) (d:=40) (by kernel_rfl) clP29
def clA51:List V:=[.agg [.str ⟨#[114]⟩,.lst 1 true [.str ⟨#[97]⟩,.str ⟨#[98]⟩],.lst 2 false [.agg [.int .i64 1,.lst 3 false [.agg [.int .i64 1,.int .i64 1,.str ⟨#[]⟩],.agg [.int .i64 1,.int .i64 1,.str ⟨#[]⟩]]],.agg [.int .i64 2,.lst 3 false [.agg [.int .i64 1,.int .i64 1,.str ⟨#[]⟩],.agg [.int .i64 1,.int .i64 2,.str ⟨#[]⟩]]]]],.lst 2 true [.agg [.int .u32 1,.int .u32 2]],.lst 2 false [.agg [.int .i64 2,.int .i64 1]]]
def clR51:V:=.int .i64 0
theorem clP51:AM.Pure clR51:=by simp[clR51]
theorem clQ51:∀a∈clA51,AM.Pure a:=by simp[clA51]
theorem cl51:aR Tryz.prog 43 clA51 fun x=>x=clR51:=aH tok mixed ai aj (fuel:=1000) (d:=40) (by kernel_rfl) clP51
def clA0:List V:=[]
def clR0:V:=.agg [.str ⟨#[114]⟩,.lst 1 true [.str ⟨#[97]⟩,.str ⟨#[98]⟩],.lst 2 false [.agg [.int .i64 1,.lst 3 false [.agg [.int .i64 1,.int .i64 1,.str ⟨#[]⟩],.agg [.int .i64 1,.int .i64 1,.str ⟨#[]⟩]]],.agg [.int .i64 2,.lst 3 false [.agg [.int .i64 1,.int .i64 1,.str ⟨#[]⟩],.agg [.int .i64 1,.int .i64 2,.str ⟨#[]⟩]]]]]
theorem clP0:AM.Pure clR0:=by simp[clR0]
theorem clQ0:∀a∈clA0,AM.Pure a:=by simp[clA0]
theorem cl0:aR Tryz.prog 40 clA0 fun x=>x=clR0:=aH tok mixed ai aj (fuel:=1000) (d:=40) (by kernel_rfl) clP0
def clA5:List V:=[.agg [.str ⟨#[114]⟩,.lst 1 true [.str ⟨#[97]⟩,.str ⟨#[98]⟩],.lst 2 false [.agg [.int .i64 1,.lst 3 false [.agg [.int .i64 1,.int .i64 1,.str ⟨#[]⟩],.agg [.int .i64 1,.int .i64 1,.str ⟨#[]⟩]]],.agg [.int .i64 2,.lst 3 false [.agg [.int .i64 1,.int .i64 1,.str ⟨#[]⟩],.agg [.int .i64 1,.int .i64 2,.str ⟨#[]⟩]]]]]]
def clR5:V:=.lst 2 false [.agg [.int .i64 1,.int .i64 0],.agg [.int .i64 1,.int .i64 1],.agg [.int .i64 2,.int .i64 0],.agg [.int .i64 2,.int .i64 1]]
theorem clP5:AM.Pure clR5:=by simp[clR5]
theorem clQ5:∀a∈clA5,AM.Pure a:=by simp[clA5]
theorem cl5:aR Tryz.prog 18 clA5 fun x=>x=clR5:=aH tok mixed ai aj (fuel:=1000) (d:=40) (by kernel_rfl) clP5
def clA14:List V:=[.lst 2 false [.agg [.int .i64 1,.int .i64 0],.agg [.int .i64 1,.int .i64 1],.agg [.int .i64 2,.int .i64 0],.agg [.int .i64 2,.int .i64 1]],.int .i64 1]
def clR14:V:=.lst 2 false [.agg [.int .i64 1,.int .i64 0],.agg [.int .i64 2,.int .i64 0],.agg [.int .i64 2,.int .i64 1]]
theorem clP14:AM.Pure clR14:=by simp[clR14]
theorem clQ14:∀a∈clA14,AM.Pure a:=by simp[clA14]
theorem cl14:aR Tryz.prog 82 clA14 fun x=>x=clR14:=aH tok mixed ai aj (fuel:=1000) (d:=40) (by kernel_rfl) clP14
def clA22:List V:=[.lst 2 false [.agg [.int .i64 1,.int .i64 0],.agg [.int .i64 1,.int .i64 1],.agg [.int .i64 2,.int .i64 0],.agg [.int .i64 2,.int .i64 1]],.int .i64 3]
def clR22:V:=.lst 2 false [.agg [.int .i64 1,.int .i64 0],.agg [.int .i64 1,.int .i64 1],.agg [.int .i64 2,.int .i64 0]]
theorem clP22:AM.Pure clR22:=by simp[clR22]
theorem clQ22:∀a∈clA22,AM.Pure a:=by simp[clA22]
theorem cl22:aR Tryz.prog 82 clA22 fun x=>x=clR22:=aH tok mixed ai aj (fuel:=1000) (d:=40) (by kernel_rfl) clP22
def clA37:List V:=[.lst 2 false [.agg [.int .i64 1,.int .i64 1],.agg [.int .i64 2,.int .i64 0],.agg [.int .i64 2,.int .i64 1]],.int .i64 1]
def clR37:V:=.lst 2 false [.agg [.int .i64 1,.int .i64 1],.agg [.int .i64 2,.int .i64 1]]
theorem clP37:AM.Pure clR37:=by simp[clR37]
theorem clQ37:∀a∈clA37,AM.Pure a:=by simp[clA37]
theorem cl37:aR Tryz.prog 82 clA37 fun x=>x=clR37:=aH tok mixed ai aj (fuel:=1000) (d:=40) (by kernel_rfl) clP37
def clA43:List V:=[.agg [.str ⟨#[114]⟩,.lst 1 true [.str ⟨#[97]⟩,.str ⟨#[98]⟩],.lst 2 false [.agg [.int .i64 1,.lst 3 false [.agg [.int .i64 1,.int .i64 1,.str ⟨#[]⟩],.agg [.int .i64 1,.int .i64 1,.str ⟨#[]⟩]]],.agg [.int .i64 2,.lst 3 false [.agg [.int .i64 1,.int .i64 1,.str ⟨#[]⟩],.agg [.int .i64 1,.int .i64 2,.str ⟨#[]⟩]]]]],.lst 2 true [.agg [.int .u32 0,.int .u32 2]],.lst 2 false [.agg [.int .i64 1,.int .i64 0],.agg [.int .i64 2,.int .i64 0],.agg [.int .i64 2,.int .i64 1]]]
def clR43:V:=.bool true
theorem clP43:AM.Pure clR43:=by simp[clR43]
theorem clQ43:∀a∈clA43,AM.Pure a:=by simp[clA43]
theorem cl43:aR Tryz.prog 44 clA43 fun x=>x=clR43:=aH tok mixed ai aj (fuel:=1000) (d:=40) (by kernel_rfl) clP43
def clA24:List V:=[.agg [.str ⟨#[114]⟩,.lst 1 true [.str ⟨#[97]⟩,.str ⟨#[98]⟩],.lst 2 false [.agg [.int .i64 1,.lst 3 false [.agg [.int .i64 1,.int .i64 1,.str ⟨#[]⟩],.agg [.int .i64 1,.int .i64 1,.str ⟨#[]⟩]]],.agg [.int .i64 2,.lst 3 false [.agg [.int .i64 1,.int .i64 1,.str ⟨#[]⟩],.agg [.int .i64 1,.int .i64 2,.str ⟨#[]⟩]]]]],.lst 2 true [.agg [.int .u32 1,.int .u32 2]],.lst 2 false [.agg [.int .i64 2,.int .i64 1]]]
def clR24:V:=.bool true
theorem clP24:AM.Pure clR24:=by simp[clR24]
theorem clQ24:∀a∈clA24,AM.Pure a:=by simp[clA24]
theorem cl24:aR Tryz.prog 44 clA24 fun x=>x=clR24:=aH tok mixed ai aj (fuel:=1000) (d:=40) (by kernel_rfl) clP24
def clA7:List V:=[.agg [.str ⟨#[114]⟩,.lst 1 true [.str ⟨#[97]⟩,.str ⟨#[98]⟩],.lst 2 false [.agg [.int .i64 1,.lst 3 false [.agg [.int .i64 1,.int .i64 1,.str ⟨#[]⟩],.agg [.int .i64 1,.int .i64 1,.str ⟨#[]⟩]]],.agg [.int .i64 2,.lst 3 false [.agg [.int .i64 1,.int .i64 1,.str ⟨#[]⟩],.agg [.int .i64 1,.int .i64 2,.str ⟨#[]⟩]]]]],.lst 2 false [.agg [.int .i64 1,.int .i64 0],.agg [.int .i64 1,.int .i64 1],.agg [.int .i64 2,.int .i64 0],.agg [.int .i64 2,.int .i64 1]]]
def clR7:V:=.nilS
theorem clP7:AM.Pure clR7:=by simp[clR7]
theorem clQ7:∀a∈clA7,AM.Pure a:=by simp[clA7]
theorem cl7:aR Tryz.prog 66 clA7 fun x=>x=clR7:=aH tok mixed ai aj (fuel:=1000) (d:=40) (by kernel_rfl) clP7
def clA31:List V:=[.agg [.str ⟨#[114]⟩,.lst 1 true [.str ⟨#[97]⟩,.str ⟨#[98]⟩],.lst 2 false [.agg [.int .i64 1,.lst 3 false [.agg [.int .i64 1,.int .i64 1,.str ⟨#[]⟩],.agg [.int .i64 1,.int .i64 1,.str ⟨#[]⟩]]],.agg [.int .i64 2,.lst 3 false [.agg [.int .i64 1,.int .i64 1,.str ⟨#[]⟩],.agg [.int .i64 1,.int .i64 2,.str ⟨#[]⟩]]]]],.lst 2 true [.agg [.int .u32 0,.int .u32 2]],.lst 2 false [.agg [.int .i64 1,.int .i64 0]]]
def clR31:V:=.bool false
theorem clP31:AM.Pure clR31:=by simp[clR31]
theorem clQ31:∀a∈clA31,AM.Pure a:=by simp[clA31]
theorem cl31:aR Tryz.prog 44 clA31 fun x=>x=clR31:=aH tok mixed ai aj (fuel:=1000) (d:=40) (by kernel_rfl) clP31
def clA34:List V:=[.agg [.str ⟨#[114]⟩,.lst 1 true [.str ⟨#[97]⟩,.str ⟨#[98]⟩],.lst 2 false [.agg [.int .i64 1,.lst 3 false [.agg [.int .i64 1,.int .i64 1,.str ⟨#[]⟩],.agg [.int .i64 1,.int .i64 1,.str ⟨#[]⟩]]],.agg [.int .i64 2,.lst 3 false [.agg [.int .i64 1,.int .i64 1,.str ⟨#[]⟩],.agg [.int .i64 1,.int .i64 2,.str ⟨#[]⟩]]]]],.lst 2 false [.agg [.int .i64 2,.int .i64 0],.agg [.int .i64 2,.int .i64 1]]]
def clR34:V:=.lst 2 false [.agg [.int .i64 1,.int .i64 0],.agg [.int .i64 1,.int .i64 1]]
theorem clP34:AM.Pure clR34:=by simp[clR34]
theorem clQ34:∀a∈clA34,AM.Pure a:=by simp[clA34]
theorem cl34:aR Tryz.prog 66 clA34 fun x=>x=clR34:=aH tok mixed ai aj (fuel:=1000) (d:=40) (by kernel_rfl) clP34
def clA20:List V:=[.agg [.str ⟨#[114]⟩,.lst 1 true [.str ⟨#[97]⟩,.str ⟨#[98]⟩],.lst 2 false [.agg [.int .i64 1,.lst 3 false [.agg [.int .i64 1,.int .i64 1,.str ⟨#[]⟩],.agg [.int .i64 1,.int .i64 1,.str ⟨#[]⟩]]],.agg [.int .i64 2,.lst 3 false [.agg [.int .i64 1,.int .i64 1,.str ⟨#[]⟩],.agg [.int .i64 1,.int .i64 2,.str ⟨#[]⟩]]]]],.lst 2 true [.agg [.int .u32 1,.int .u32 2]],.lst 2 false [.agg [.int .i64 2,.int .i64 0]]]
def clR20:V:=.bool true
theorem clP20:AM.Pure clR20:=by simp[clR20]
theorem clQ20:∀a∈clA20,AM.Pure a:=by simp[clA20]
theorem cl20:aR Tryz.prog 44 clA20 fun x=>x=clR20:=aH tok mixed ai aj (fuel:=1000) (d:=40) (by kernel_rfl) clP20
def clA28:List V:=[.agg [.str ⟨#[114]⟩,.lst 1 true [.str ⟨#[97]⟩,.str ⟨#[98]⟩],.lst 2 false [.agg [.int .i64 1,.lst 3 false [.agg [.int .i64 1,.int .i64 1,.str ⟨#[]⟩],.agg [.int .i64 1,.int .i64 1,.str ⟨#[]⟩]]],.agg [.int .i64 2,.lst 3 false [.agg [.int .i64 1,.int .i64 1,.str ⟨#[]⟩],.agg [.int .i64 1,.int .i64 2,.str ⟨#[]⟩]]]]],.lst 2 true [.agg [.int .u32 0,.int .u32 2]],.lst 2 false [.agg [.int .i64 1,.int .i64 0],.agg [.int .i64 1,.int .i64 1],.agg [.int .i64 2,.int .i64 0],.agg [.int .i64 2,.int .i64 1]]]
def clR28:V:=.int .i64 0
theorem clP28:AM.Pure clR28:=by simp[clR28]
theorem clQ28:∀a∈clA28,AM.Pure a:=by simp[clA28]
theorem cl28:aR Tryz.prog 43 clA28 fun x=>x=clR28:=aH tok mixed ai aj (fuel:=1000) (d:=40) (by kernel_rfl) clP28
def clA55:List V:=[.agg [.str ⟨#[114]⟩,.lst 1 false [.str ⟨#[97]⟩,.str ⟨#[98]⟩],.lst 2 false [.agg [.int .i64 1,.lst 3 false [.agg [.int .i64 1,.int .i64 1,.str ⟨#[]⟩],.agg [.int .i64 1,.int .i64 1,.str ⟨#[]⟩]]],.agg [.int .i64 2,.lst 3 false [.agg [.int .i64 1,.int .i64 1,.str ⟨#[]⟩],.agg [.int .i64 1,.int .i64 1,.str ⟨#[]⟩]]]]],.lst 2 true [.agg [.int .u32 1,.int .u32 2]],.nilS]
def clR55:V:=.bool true
theorem clP55:AM.Pure clR55:=by simp[clR55]
theorem clQ55:∀a∈clA55,AM.Pure a:=by simp[clA55]
theorem cl55:aR Tryz.prog 44 clA55 fun x=>x=clR55:=aH tok mixed ai aj (fuel:=1000) (d:=40) (by kernel_rfl) clP55
def clA3:List V:=[.agg [.str ⟨#[114]⟩,.lst 1 true [.str ⟨#[97]⟩,.str ⟨#[98]⟩],.lst 2 false [.agg [.int .i64 1,.lst 3 false [.agg [.int .i64 1,.int .i64 1,.str ⟨#[]⟩],.agg [.int .i64 1,.int .i64 1,.str ⟨#[]⟩]]],.agg [.int .i64 2,.lst 3 false [.agg [.int .i64 1,.int .i64 1,.str ⟨#[]⟩],.agg [.int .i64 1,.int .i64 2,.str ⟨#[]⟩]]]]],.lst 2 true [.agg [.int .u32 1,.int .u32 2]],.lst 2 true [.agg [.int .i64 1,.int .i64 0]]]
def clR3:V:=.int .i64 0
theorem clP3:AM.Pure clR3:=by simp[clR3]
theorem clQ3:∀a∈clA3,AM.Pure a:=by simp[clA3]
theorem cl3:aR Tryz.prog 43 clA3 fun x=>x=clR3:=aH tok mixed ai aj (fuel:=1000) (d:=40) (by kernel_rfl) clP3
def clA50:List V:=[.agg [.str ⟨#[114]⟩,.lst 1 true [.str ⟨#[97]⟩,.str ⟨#[98]⟩],.lst 2 false [.agg [.int .i64 1,.lst 3 false [.agg [.int .i64 1,.int .i64 1,.str ⟨#[]⟩],.agg [.int .i64 1,.int .i64 1,.str ⟨#[]⟩]]],.agg [.int .i64 2,.lst 3 false [.agg [.int .i64 1,.int .i64 1,.str ⟨#[]⟩],.agg [.int .i64 1,.int .i64 2,.str ⟨#[]⟩]]]]],.nilS]
def clR50:V:=.lst 2 false [.agg [.int .i64 1,.int .i64 0],.agg [.int .i64 1,.int .i64 1],.agg [.int .i64 2,.int .i64 0],.agg [.int .i64 2,.int .i64 1]]
theorem clP50:AM.Pure clR50:=by simp[clR50]
theorem clQ50:∀a∈clA50,AM.Pure a:=by simp[clA50]
theorem cl50:aR Tryz.prog 66 clA50 fun x=>x=clR50:=aH tok mixed ai aj (fuel:=1000) (d:=40) (by kernel_rfl) clP50
def clA10:List V:=[.lst 2 false [.agg [.int .i64 1,.int .i64 0],.agg [.int .i64 1,.int .i64 1],.agg [.int .i64 2,.int .i64 0],.agg [.int .i64 2,.int .i64 1]],.int .i64 0]
def clR10:V:=.lst 2 false [.agg [.int .i64 1,.int .i64 1],.agg [.int .i64 2,.int .i64 0],.agg [.int .i64 2,.int .i64 1]]
theorem clP10:AM.Pure clR10:=by simp[clR10]
theorem clQ10:∀a∈clA10,AM.Pure a:=by simp[clA10]
theorem cl10:aR Tryz.prog 82 clA10 fun x=>x=clR10:=aH tok mixed ai aj (fuel:=1000) (d:=40) (by kernel_rfl) clP10
def clA18:List V:=[.lst 2 false [.agg [.int .i64 1,.int .i64 0],.agg [.int .i64 1,.int .i64 1],.agg [.int .i64 2,.int .i64 0],.agg [.int .i64 2,.int .i64 1]],.int .i64 2]
def clR18:V:=.lst 2 false [.agg [.int .i64 1,.int .i64 0],.agg [.int .i64 1,.int .i64 1],.agg [.int .i64 2,.int .i64 1]]
theorem clP18:AM.Pure clR18:=by simp[clR18]
theorem clQ18:∀a∈clA18,AM.Pure a:=by simp[clA18]
theorem cl18:aR Tryz.prog 82 clA18 fun x=>x=clR18:=aH tok mixed ai aj (fuel:=1000) (d:=40) (by kernel_rfl) clP18
def clA33:List V:=[.lst 2 false [.agg [.int .i64 1,.int .i64 1],.agg [.int .i64 2,.int .i64 0],.agg [.int .i64 2,.int .i64 1]],.int .i64 0]
def clR33:V:=.lst 2 false [.agg [.int .i64 2,.int .i64 0],.agg [.int .i64 2,.int .i64 1]]
theorem clP33:AM.Pure clR33:=by simp[clR33]
theorem clQ33:∀a∈clA33,AM.Pure a:=by simp[clA33]
theorem cl33:aR Tryz.prog 82 clA33 fun x=>x=clR33:=aH tok mixed ai aj (fuel:=1000) (d:=40) (by kernel_rfl) clP33
def clA41:List V:=[.lst 2 false [.agg [.int .i64 1,.int .i64 1],.agg [.int .i64 2,.int .i64 1]],.int .i64 1]
def clR41:V:=.lst 2 false [.agg [.int .i64 1,.int .i64 1]]
theorem clP41:AM.Pure clR41:=by simp[clR41]
theorem clQ41:∀a∈clA41,AM.Pure a:=by simp[clA41]
theorem cl41:aR Tryz.prog 82 clA41 fun x=>x=clR41:=aH tok mixed ai aj (fuel:=1000) (d:=40) (by kernel_rfl) clP41
end
end Go.Proofs.YteijbpppalhihaaGreat
