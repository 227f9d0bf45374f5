/- JB44: texts Q6, Q7, Q8, P0, P1, P3, P4, Q9, P6, Q11, P7, P2, P8, P9, joined and shortened by pack6.py. -/
import Derived.Test.YtnaokiodhoadjaaGreatDoorJB32
import Derived.Test.YtnaokiodhoadjaaGreatDoorJB43
set_option linter.all false
set_option maxRecDepth 100000
set_option maxHeartbeats 64000000
open ByteArray renaming empty→tp
open List renaming replicate→tg,range→tr,length_cons→uX,getElem?_cons_zero→vI,set_cons_zero→wZ,set_cons_succ→xA
namespace Go.Proofs.YtnaokiodhoadjaaGreatDoor
section
open Go Go.AM Go.Proofs.Tryz
section
def enough_meets{t:Tb}{fds:List Fd}{L K:List Cr}(hL:Okq (aQ t fds L))(b:∀c∈L,c∈bR t)(d:Nec t fds K):∃c∈K,c∈L:=by
 refine Classical.byContradiction fun h=>d (okq_mono (fun c a=>?_) hL)
 exact cz.2 ⟨b c a,fun hk=>h ⟨c,hk,a⟩⟩
def eh(vs:List Cr)(v:Nat):Cr:=vs.getD v ⟨0,0⟩
open Classical in
noncomputable def dK(vs:List Cr)(K:List Cr):List Nat:=(tr vs.length).filter fun v=>decide (eh vs v∈K)
def iw{vs K:List Cr}{v:Nat} : v∈dK vs K↔v<vs.length/\eh vs v∈K:=by
 unfold dK;rw[vR,vS];simp
def ap(n:Nat):List Int:=tg n 1
theorem rG(n:Nat):∀l:List Nat,(∀v∈l,v<n)->wl (ap n) l=l.length
 | [],_=>rfl
 | v::l,h=>by
  rw[wl,rG n l (fun u hu=>h u (uO _ hu)),uX]
  have:(ap n).getD v 0=1:=by
   unfold ap;rw[aY _ _ (by simpa using h v uN)];simp
  rw[this];omega
def og(n:Nat)(T:Nat->Bool):dA (ap n) T n=(((tr n).filter T).length:Nat):=by
 rw[eE,rG n _ (fun v hv=>List.mem_range.1 (List.mem_filter.1 hv).1)]
def dH(vs:List Cr)(T:Nat->Bool):List Cr:=((tr vs.length).filter T).map (eh vs)
def tL{vs:List Cr}{T:Nat->Bool}{c:Cr} : c∈dH vs T↔∃v,v<vs.length/\T v=true/\eh vs v=c:=by
 unfold dH;rw[wc];constructor
 .rintro⟨v,h1,h2⟩;rw[vR,vS]at h1;exact⟨v,h1.1,h1.2,h2⟩
 .rintro⟨v,h1,h2,a⟩;exact⟨v,List.mem_filter.2 ⟨List.mem_range.2 h1,h2⟩,a⟩
def cAtD_inj{vs:List Cr}(hn:vs.Nodup){a b:Nat}(ha:a<vs.length)(hb:b<vs.length)(h:eh vs a=eh vs b):a=b:=by
 unfold eh at h;rw[aY _ _ ha,aY _ _ hb]at h
 rcases ve a b with h1 | h1 | h1
 .exact absurd h (List.pairwise_iff_getElem.1 hn a b ha hb h1)
 .exact h1
 .exact absurd h.symm (List.pairwise_iff_getElem.1 hn b a hb ha h1)
theorem lO{c d:Type}{f:c->d} : ∀{l:List c},l.Nodup->(∀a∈l,∀b∈l,f a=f b->a=b)->(l.map f).Nodup
 | [],_,_=>by simp
 | a::l,hn,hi=>by
  obtain⟨h1,h2⟩:=List.nodup_cons.1 hn;rw[vW,List.nodup_cons];refine⟨fun hm=>?_,lO h2 (fun x hx y e=>hi x (uO _ hx) y (uO _ e))⟩;obtain⟨b,hb,he⟩:=List.mem_map.1 hm;have:=hi a uN b (uO _ hb) he.symm;subst this;exact h1 hb
def hit_le{t:Tb}{fds:List Fd}{vs:List Cr}{cores:List (List Cr)}(hv:vs.Nodup)(f:∀K∈cores,∀c∈K,c∈vs)(d:∀K∈cores,Nec t fds K){T:Nat->Bool}(o:MinOk vs.length (ap vs.length) (cores.map (dK vs)) T){L:List Cr}(hL:Okq (aQ t fds L))(h:∀c∈L,c∈bR t)(n:L.Nodup):(dH vs T).length<=L.length:=by
 classical
 have hm:=o.m (fun v=>decide (eh vs v∈L)) (fun e he=>by
  obtain⟨K,i,rfl⟩:=List.mem_map.1 he;obtain⟨c,h1,h2⟩:=enough_meets hL h (d K i);obtain⟨v,g,rfl⟩:=List.mem_iff_getElem.1 (f K i c h1);have j:eh vs v=vs[v]:=aY _ _ g
  exact⟨v,iw.2 ⟨g,by rw[j];exact h1⟩,by rw[j];exact decide_eq_true h2⟩)
 rw[og,og]at hm
 have h1:(dH vs T).length=((tr vs.length).filter T).length:=by simp[dH]
 have h2:((tr vs.length).filter fun v=>decide (eh vs v∈L)).length<=L.length:=by
  have hnd:(((tr vs.length).filter fun v=>decide (eh vs v∈L)).map (eh vs)).Nodup:=lO (List.nodup_range.filter _) (fun a ha b hb he=>cAtD_inj hv (List.mem_range.1 (List.mem_filter.1 ha).1) (List.mem_range.1 (List.mem_filter.1 hb).1) he)
  have:=hnd.length_le_of_subset (l₂:=L) (fun c l=>by
   obtain⟨v,k,rfl⟩:=List.mem_map.1 l
   exact of_decide_eq_true (List.mem_filter.1 k).2)
  simpa using this
 omega
def core_new{t:Tb}{fds:List Fd}{vs:List Cr}{cores:List (List Cr)}(a:∀K∈cores,∀c∈K,c∈vs){T:Nat->Bool}(f:∀e∈cores.map (dK vs),∃v∈e,T v=true){K:List Cr}(d:∀c∈K,c∉dH vs T):K∉cores:=by
 intro hm;obtain⟨v,h1,h2⟩:=f _ (List.mem_map.2 ⟨K,hm,rfl⟩);obtain⟨b,g⟩:=iw.1 h1;exact d _ g (tL.2 ⟨v,b,h2,rfl⟩)
end
end
end Go.Proofs.YtnaokiodhoadjaaGreatDoor
section
namespace Go.Proofs.YtnaokiodhoadjaaGreatDoor
open Go Go.AM Go.Proofs.Tryz
end Go.Proofs.YtnaokiodhoadjaaGreatDoor
end
namespace Go.Proofs.YtnaokiodhoadjaaGreatDoor
section
open Go Go.AM Go.Proofs.Tryz
def iU(vs:List Cr)(c:Cr):Nat:=bsC vs c 0 vs.length
def qt{vs:List Cr}(hs:aS vs){c:Cr}(a:c∈vs):iU vs c<vs.length/\eh vs (iU vs c)=c:=by
 obtain⟨h1,h2⟩:=(bsC_mem hs c).2 a;refine⟨h1,?_⟩;unfold eh iU;rw[aY _ _ h1];exact(jc _ _).1 h2
def bt{vs:List Cr}(hs:aS vs):vs.Nodup:=hs.imp (fun h e=>by subst e;exact fE _ h)
def idxC_lt{vs:List Cr}(hs:aS vs){a b:Cr}(ha:a∈vs)(hb:b∈vs)(h:cLt a b):iU vs a<iU vs b:=by
 obtain⟨a1,c⟩:=qt hs ha;obtain⟨e,d⟩:=qt hs hb;have f:eh vs (iU vs a)=vs[iU vs a]:=aY _ _ a1;have g:eh vs (iU vs b)=vs[iU vs b]:=aY _ _ e
 rcases ve (iU vs a) (iU vs b) with h1 | h1 | h1
 .exact h1
 .rw[h1,d]at c;subst c;exact absurd h (fE _)
 .have:=en hs e a1 h1;rw[<-f,<-g,c,d]at this;exact absurd (ew h this) (fE _)
def edge_map{vs K:List Cr}(hs:aS vs)(g:aS K)(d:∀c∈K,c∈vs):K.map (iU vs)=dK vs K:=by
 refine mQ _ _ ?_ (List.pairwise_lt_range.filter _) (fun x=>?_)
 .rw[wD];refine List.Pairwise.imp_of_mem ?_ g;intro a b ha hb h;exact idxC_lt hs (d a ha) (d b hb) h
 .rw[wc,iw];constructor
  .rintro⟨c,e,rfl⟩;obtain⟨h1,h2⟩:=qt hs (d c e);exact⟨h1,by rw[h2];exact e⟩
  .rintro⟨h1,h2⟩;refine⟨eh vs x,h2,?_⟩;obtain⟨f,i⟩:=qt hs (d _ h2);exact cAtD_inj (bt hs) f h1 i
theorem kF:∀c b:List Cr,aS c->aS b->(∀x,x∈c↔x∈b)->c=b
 | [],[],_,_,_=>rfl
 | [],y::b,_,_,h=>by have:=(h y).2 uN;cases this
 | x::c,[],_,_,h=>by have:=(h x).1 uN;cases this
 | x::c,y::b,h1,h2,h=>by
  obtain⟨a1,g⟩:=List.pairwise_cons.1 h1;obtain⟨f,i⟩:=List.pairwise_cons.1 h2;have hx:=(h x).1 uN;have d:=(h y).2 uN
  have e:x=y:=by
   rcases List.mem_cons.1 hx with e | hx
   .exact e
   .rcases List.mem_cons.1 d with e | d
    .exact e.symm
    .exact absurd (ew (f x hx) (a1 y d)) (fE _)
  subst e;congr 1;refine kF c b g i (fun z=>⟨fun hz=>?_,fun hz=>?_⟩)
  .rcases List.mem_cons.1 ((h z).1 (uO _ hz)) with e | a
   .subst e;exact absurd (a1 z hz) (fE _)
   .exact a
  .rcases List.mem_cons.1 ((h z).2 (uO _ hz)) with e | a
   .subst e;exact absurd (f z hz) (fE _)
   .exact a
def edgeC_ok{vs K:List Cr}(d:K≠[])(a:∀c∈K,c∈vs):dK vs K≠[]/\(dK vs K).Pairwise (· < ·)/\∀v∈dK vs K,v<vs.length:=by
 refine⟨fun h=>?_,List.pairwise_lt_range.filter _,fun v hv=>(iw.1 hv).1⟩
 cases K with
 | nil=>exact d rfl
 | cons c K =>
  obtain⟨v,hv,he⟩:=List.mem_iff_getElem.1 (a c uN);have b:eh vs v=vs[v]:=aY _ _ hv;have:v∈dK vs (c::K):=iw.2 ⟨hv,by rw[b,he];exact uN⟩;rw[h]at this;cases this
def hsb_cores{vs:List Cr}{cores:List (List Cr)}(hn:vs.length<=200)(f:cores.length<=2000)(b:∀K∈cores,K≠[])(a:∀K∈cores,∀c∈K,c∈vs):HsB (ap vs.length) (cores.map (dK vs)):=by
 have hl:(ap vs.length).length=vs.length:=by simp[ap]
 refine⟨fun v hv=>?_,by rw[hl];exact hn,by simpa using f,fun e he=>?_⟩
 .rw[aY _ _ hv];simp[ap]
 .rw[hl];obtain⟨K,d,rfl⟩:=List.mem_map.1 he;exact edgeC_ok (b K d) (a K d)
def LLC(f g:Bool)(cores:List (List Cr)):V:=.lst 1 g (cores.map (LC f))
@[simp] theorem LLC_pure (f g:Bool) (cores:List (List Cr)):AM.Pure (LLC f g cores):=.lst _ _ _ (fun x hx=>by obtain⟨K,_,rfl⟩:=List.mem_map.1 hx;exact LC_pure _ _)
def vsC(cores:List (List Cr)):List Cr:=fJ (gz cores.flatten)
def PRB(cores:List (List Cr)):V:=.tup [aV false false (ap (vsC cores).length) (cores.map fun K=>K.map (iU (vsC cores))),LC false (vsC cores)]
def flC(f:Bool)(K:List Cr):FlV:=⟨f,crL K⟩
theorem cat_crL(f:Bool):∀cores:List (List Cr),dL (cores.map (flC f))=crL cores.flatten
 | []=>rfl
 | K::cs=>by
  have:=cat_crL f cs;unfold dL at this ⊢;simp only[vW,List.flatten_cons,this];unfold crL flC;rw[uu];rfl
def concat_cores(cores:List (List Cr))(f g:Bool){n:Nat}(hn:cores.length=n)(b:n<=100000)(d:∀K∈cores,K.length<=100000)(a:cores.flatten.length<=1000000):
  ia prog 67 [LLC f g cores] fun e z xs=>e=101/\z=2/\xs=crL cores.flatten:=by
 have h:=concatO_C (cores.map (flC f)) g (fun l hl x hx=>by
  obtain⟨K,_,rfl⟩:=List.mem_map.1 hl;obtain⟨h1,h2⟩:=sw K x hx;refine⟨h1,h2,?_⟩;obtain⟨c,_,rfl⟩:=List.mem_map.1 hx
  rfl) (by rw[ud];omega) (by rw[cat_crL,cU];exact a)
 rw[cat_crL,xH]at h;exact h
def crL_scalar(F:List Cr):∀x∈crL F,Scalar x:=fun x hx=>by
 obtain⟨c,_,rfl⟩:=List.mem_map.1 hx;exact .agg _ (fun d a=>by simp only[tw,tq,or_false]at a;rcases a with rfl | rfl<;>constructor)
def exp_CO{H:List B}{k n e:Nat}{fz:Bool}{cores:List (List Cr)}(hk:H[k]?=some (.buf e 1 (cores.map (LC false)) fz))(hn:cores.length=n):Exp H (.buf k 0 n n) (LLC false false cores):=by
 subst hn;have:=Exp.buf k 0 cores.length e 1 (cores.map (LC false)) fz hk ζ (fun x hx=>by obtain⟨K,_,rfl⟩:=List.mem_map.1 hx;exact LC_pure _ _);rw[uG,ud,uY ζ]at this;exact this
def exp_pre{H:List B}{k e m N:Nat}{fz:Bool}{vs a zs:List Cr}(hk:H[k]?=some (.buf e 2 (crL a) fz))(hV:a=vs++zs)(hm:vs.length=m)(b:a.length=N):Exp H (.buf k 0 m N) (LC false vs):=by
 subst hm;subst b;have:=Exp.buf k 0 vs.length e 2 (crL a) fz hk (by rw[cU,hV];simp) (fun x hx=>(sw a x hx).1);rw[uG,cU]at this
 have c:(crL a).take vs.length=vs.map ab:=by
  rw[hV];unfold crL;rw[uu,xt ζ]
 rw[c]at this;exact this
end
end Go.Proofs.YtnaokiodhoadjaaGreatDoor
section
namespace Go.Proofs.YtnaokiodhoadjaaGreatDoor
open Go Go.AM Go.Proofs.Tryz
end Go.Proofs.YtnaokiodhoadjaaGreatDoor
end
namespace Go.Proofs.YtnaokiodhoadjaaGreatDoor
section
open Go Go.AM Go.Proofs.Tryz
structure Upd where
 cells:List Cr
 tab:Tb
 cores:List (List Cr)
 prf:List Nde
def encUp(u:Upd):V:=.agg [LC false u.cells,.str u.tab.name,LS false u.tab.attrs,LR false u.tab.rows,LLC false false u.cores,LNd false u.prf]
structure UpdOk (u:Upd):Prop where
 tab:TbOk u.tab
 cells:u.cells.length<=100000
 cn:u.cores.length<=100000
 cl:∀K∈u.cores,K.length<=100000
 cf:u.cores.flatten.length<=1000000
 prf:u.prf.length<=1000000
end
end Go.Proofs.YtnaokiodhoadjaaGreatDoor
section
namespace Go.Proofs.YtnaokiodhoadjaaGreatDoor
open Go Go.AM Go.Proofs.Tryz
end Go.Proofs.YtnaokiodhoadjaaGreatDoor
end
section
namespace Go.Proofs.YtnaokiodhoadjaaGreatDoor
open Go Go.AM Go.Proofs.Tryz
end Go.Proofs.YtnaokiodhoadjaaGreatDoor
end
namespace Go.Proofs.YtnaokiodhoadjaaGreatDoor
section
open Go Go.AM Go.Sort Go.Proofs.Tryz
def nK(l:List Cr):(gz l).Pairwise fun x y=>¬cLt y x:=by
 have:=xQ (le:=fun x y=>!(Go.Proofs.ltOf cP) y x) (fun a b c h g=>by
  simp only[uj,Go.Proofs.ltOf,decide_eq_false_iff_not]at *
  exact qE g h) (fun a b=>by
  simp only[vA,uj,Go.Proofs.ltOf,decide_eq_false_iff_not];by_cases h:cP b a<0
  .right;intro g;exact cmpC_irr a (ja g h)
  .exact .inl h) l
 refine this.imp fun {x y} h=>?_
 rw[<-ft];simpa[Go.Proofs.ltOf] using h
theorem cpF_ok{l:List Cr}(hs:l.Pairwise fun x y=>¬cLt y x):∀p,1<=p->p<=l.length->(∃L,cpF l p=L++[cAt l (p-1)])/\aS (cpF l p)/\∀x,x∈cpF l p↔x∈l.take p
 | 0,h,_=>by omega
 | 1,_,hl=>by
  refine⟨⟨[],rfl⟩,by simp[cpF,aS],fun x=>?_⟩;rw[ie (k:=0) ω];simp[cpF]
 | p+2,_,hl=>by
  obtain⟨⟨L,h1⟩,h2,e⟩:=cpF_ok hs (p+1) ω ω;rw[wH]at h1;rw[cpF,(ω:p+2-1=p+1)]
  have c:∀x,x∈l.take (p+2)↔x∈l.take (p+1)\/x=cAt l (p+1):=fun x=>by
   rw[ie (k:=p+1) ω];simp
  split
  .rename_i he;refine⟨⟨L,by rw[h1,he]⟩,h2,fun x=>?_⟩;rw[c,e];constructor
   .exact .inl
   .rintro(h | h)
    .exact h
    .rw[h,he,<-e,h1];simp
  .rename_i he;refine⟨⟨_,rfl⟩,?_,fun x=>?_⟩
   .have d:cLt (cAt l p) (cAt l (p+1)):=by
     have:=List.pairwise_iff_getElem.1 hs p (p+1) ω ω ω;rw[<-jd (show p<l.length by omega),<-jd (show p+1<l.length by omega)]at this
     rcases cLt_tri (cAt l p) (cAt l (p+1)) with h | h | h
     .exact h
     .exact absurd h.symm he
     .exact absurd h this
    refine List.pairwise_append.2 ⟨h2,ζ,fun a ha b hb=>?_⟩;rw[uQ]at hb;subst hb;rw[h1]at ha h2
    rcases List.mem_append.1 ha with h | h
    .exact ew ((List.pairwise_append.1 h2).2.2 a h _ ζ) d
    .rw[uQ]at h;subst h;exact d
   .rw[c,vG,e,uQ]
def compC_ok{l:List Cr}(hs:l.Pairwise fun x y=>¬cLt y x):aS (fJ l)/\∀x,x∈fJ l↔x∈l:=by
 unfold fJ;by_cases h:l=[]
 .subst h;simp[cpF,aS]
 .obtain⟨_,h1,h2⟩:=cpF_ok hs l.length (List.length_pos_iff.2 h) (uA _);rw[uV]at h2;exact⟨h1,h2⟩
def gM(cores:List (List Cr)):aS (vsC cores):=(compC_ok (nK _)).1
def vsC_mem(cores:List (List Cr))(c:Cr):c∈vsC cores↔∃K∈cores,c∈K:=by
 unfold vsC;rw[(compC_ok (nK _)).2,(rQ _).mem_iff,List.mem_flatten]
end
section
open Go Go.AM Go.Proofs.Tryz
section
open Classical in
noncomputable def numL(t:Tb)(K:List Cr):Nat:=bnF5 (fun x=>decide (bZ t x∈K)) (t.rows.length*t.attrs.length)
def numL_inj{t:Tb}{K K':List Cr}(h1:aS K)(h2:aS K')(e:∀c∈K,c∈bR t)(g:∀c∈K',c∈bR t)(he:numL t K=numL t K'):K=K':=by
 classical
 have hb:∀x,x<t.rows.length*t.attrs.length->(bZ t x∈K↔bZ t x∈K'):=fun x hx=>by
  have d:=ku (fun x=>decide (bZ t x∈K)) _ x hx;have f:=ku (fun x=>decide (bZ t x∈K')) _ x hx;unfold numL at he;rw[he]at d;have b:=d.symm.trans f;simp only[decide_eq_decide]at b;exact b
 refine kF K K' h1 h2 (fun c=>⟨fun a=>?_,fun a=>?_⟩)
 .obtain⟨x,hx,rfl⟩:=List.mem_map.1 (e c a);exact(hb x (List.mem_range.1 hx)).1 a
 .obtain⟨x,hx,rfl⟩:=List.mem_map.1 (g c a);exact(hb x (List.mem_range.1 hx)).2 a
def cores_le{t:Tb}{cores:List (List Cr)}(hn:cores.Nodup)(hs:∀K∈cores,aS K)(d:∀K∈cores,∀c∈K,c∈bR t):cores.length<=2^(t.rows.length*t.attrs.length):=by
 have hnd:(cores.map (numL t)).Nodup:=lO hn (fun a ha b hb he=>numL_inj (hs a ha) (hs b hb) (d a ha) (d b hb) he)
 have:=hnd.length_le_of_subset (l₂:=tr (2^(t.rows.length*t.attrs.length))) (fun x hx=>by
  obtain⟨K,_,rfl⟩:=List.mem_map.1 hx;rw[vS]
  exact rB _ _)
 simpa using this
end
end
section
open Go Go.AM Go.Sort Go.Proofs.Tryz
structure CoresOk (t:Tb) (fds:List Fd) (cores:List (List Cr)):Prop where
 core:∀K∈cores,IsCoreP t fds K
 srt:∀K∈cores,aS K
 sub:∀K∈cores,∀c∈K,c∈bR t
 ord:cores.Pairwise fun a b=>bN a b<0
theorem CoresOk.nil(t:Tb)(fds:List Fd):CoresOk t fds []:=⟨ζ,ζ,ζ,.nil⟩
def CoresOk.nodup{t:Tb}{fds:List Fd}{cores:List (List Cr)}(h:CoresOk t fds cores):cores.Nodup:=h.ord.imp fun {a b} h e=>by subst e;exact pY _ h
def nec_nil(t:Tb)(fds:List Fd):¬Nec t fds []:=by
 unfold Nec;intro h;refine h ⟨fun _=>.inr 0,fun x v hx hk=>?_,fun d _ i k _ _ _ a _ _=>rfl⟩;obtain⟨_,b⟩:=probK_some hk;exact absurd (cz.2 ⟨mZ hx,ζ⟩) b
def CoresOk.ne{t:Tb}{fds:List Fd}{cores:List (List Cr)}(h:CoresOk t fds cores):∀K∈cores,K≠[]:=fun K a e=>by
 subst e;exact nec_nil t fds (h.core _ a).nec
def CoresOk.vsub{t:Tb}{fds:List Fd}{cores:List (List Cr)}(h:CoresOk t fds cores):∀c∈vsC cores,c∈bR t:=fun c a=>by
 obtain⟨K,b,a⟩:=(vsC_mem _ _).1 a;exact h.sub K b c a
def vs_sub(cores:List (List Cr)):∀K∈cores,∀c∈K,c∈vsC cores:=fun K b c a=>(vsC_mem _ _).2 ⟨K,b,a⟩
def lC{t:Tb}{l:List Cr}(hn:l.Nodup)(hs:∀c∈l,c∈bR t):l.length<=t.rows.length*t.attrs.length:=by
 have:=hn.length_le_of_subset (l₂:=bR t) hs
 rwa [tM]at this
def CoresOk.vlen{t:Tb}{fds:List Fd}{cores:List (List Cr)}(h:CoresOk t fds cores):(vsC cores).length<=t.rows.length*t.attrs.length:=lC (bt (gM _)) h.vsub
def CoresOk.klen{t:Tb}{fds:List Fd}{cores:List (List Cr)}(h:CoresOk t fds cores):∀K∈cores,K.length<=t.rows.length*t.attrs.length:=fun K a=>lC (bt (h.srt K a)) (h.sub K a)
def CoresOk.len{t:Tb}{fds:List Fd}{cores:List (List Cr)}(h:CoresOk t fds cores)(a:t.rows.length*t.attrs.length<=9):cores.length<=512:=by
 have:=cores_le h.nodup h.srt h.sub;have h2:2^(t.rows.length*t.attrs.length)<=2^9:=uo ω a;omega
theorem flat_len5(k:Nat):∀ls:List (List Cr),(∀l∈ls,l.length<=k)->ls.flatten.length<=ls.length*k
 | [],_=>by simp
 | l::ls,h=>by
  have h1:=flat_len5 k ls (fun x hx=>h x (by simp[hx]));have h2:=h l ζ;rw[List.flatten_cons,uB,uX,uR];omega
def CoresOk.flen{t:Tb}{fds:List Fd}{cores:List (List Cr)}(h:CoresOk t fds cores)(a:t.rows.length*t.attrs.length<=9):cores.flatten.length<=1000000:=by
 have h1:=flat_len5 9 cores (fun K b=>ug (h.klen K b) a);have h2:=h.len a;omega
def CoresOk.edges{t:Tb}{fds:List Fd}{cores:List (List Cr)}(h:CoresOk t fds cores):(cores.map fun K=>K.map (iU (vsC cores)))=cores.map (dK (vsC cores)):=
 vY fun K a=>edge_map (gM _) (h.srt K a) (vs_sub cores K a)
def CoresOk.hsb{t:Tb}{fds:List Fd}{cores:List (List Cr)}(h:CoresOk t fds cores)(a:t.rows.length*t.attrs.length<=9):HsB (ap (vsC cores).length) (cores.map (dK (vsC cores))):=
 hsb_cores (by have:=h.vlen;omega) (by have:=h.len a;omega) h.ne (vs_sub cores)
def mN{vs:List Cr}(hs:aS vs)(T:Nat->Bool):aS (dH vs T):=by
 unfold dH aS;rw[wD]
 refine(List.pairwise_lt_range.filter _).imp_of_mem fun {a b} ha hb h=>?_
 have h1:=List.mem_range.1 (List.mem_filter.1 ha).1;have h2:=List.mem_range.1 (List.mem_filter.1 hb).1;have:=en hs h1 h2 h
 rwa [show eh vs a=vs[a] by simp[eh,h1],show eh vs b=vs[b] by simp[eh,h2]]
def tK{vs:List Cr}{T:Nat->Bool} : ∀c∈dH vs T,c∈vs:=fun c a=>by
 obtain⟨v,hv,_,rfl⟩:=tL.1 a;rw[show eh vs v=vs[v] by simp[eh,hv]];exact ti _
def coreG_flag{t:Tb}{fds:List Fd}(f:Bool)(l:List Cr)(i:Nat)(hf:f=false):(fW t fds f l i).1=false:=by
 fun_induction fW t fds f l i with
 | case1 f l i h1 h2 a=>exact a rfl
 | case2 f l i h1 h2 a=>exact a hf
 | case3 f l i h1=>exact hf
noncomputable def qQ(t:Tb)(fds:List Fd)(L:List Cr):List Cr:=(fW t fds false (cH t L) 0).2
def newK_ok{t:Tb}{fds:List Fd}{L:List Cr}(hv:TbV t)(h:¬Okq (aQ t fds L)):IsCoreP t fds (qQ t fds L)/\(∀c∈qQ t fds L,c∈cH t L)/\aS (qQ t fds L):=by
 refine coreG_ok (fixed:=cH t L) false (cH t L) 0 ⟨ω,fun c a=>a,hv.sorted_others L,?_,ω⟩;unfold Nec;rw[others_others];exact h
def CoresOk.add{t:Tb}{fds:List Fd}{cores:List (List Cr)}(h:CoresOk t fds cores)(hv:TbV t){T:Nat->Bool}(l:MinOk (vsC cores).length (ap (vsC cores).length) (cores.map (dK (vsC cores))) T)
  (j:¬Okq (aQ t fds (dH (vsC cores) T))):CoresOk t fds (dC (cores++[qQ t fds (dH (vsC cores) T)]))/\(dC (cores++[qQ t fds (dH (vsC cores) T)])).length=cores.length+1:=by
 obtain⟨k1,i,k⟩:=newK_ok hv j;have d:=core_new (t:=t) (fds:=fds) (vs_sub cores) l.h (K:=qQ t fds (dH (vsC cores) T)) (fun c f=>(cz.1 (i c f)).2);generalize qQ t fds (dH (vsC cores) T)=K at k1 i k d ⊢
 have hm:∀x,x∈dC (cores++[K])↔x∈cores\/x=K:=fun x=>by rw[(kG _).mem_iff];simp
 have hnd:(dC (cores++[K])).Nodup:=by
  refine(kG _).nodup_iff.2 ?_;refine List.nodup_append.2 ⟨h.nodup,ζ,fun a ha b hb e=>?_⟩;rw[uQ]at hb;subst hb;subst e;exact d ha
 refine⟨⟨fun x hx=>?_,fun x hx=>?_,fun x hx=>?_,?_⟩,by rw[sortLs_len];simp⟩
 .rcases(hm x).1 hx with h1 | rfl
  .exact h.core x h1
  .exact k1
 .rcases(hm x).1 hx with h1 | rfl
  .exact h.srt x h1
  .exact k
 .rcases(hm x).1 hx with h1 | rfl
  .exact h.sub x h1
  .exact fun c f=>(cz.1 (i c f)).1
 .refine((sortLs_sorted (cores++[K])).and hnd).imp fun {a b} ⟨h1,h2⟩=>?_
  rcases ll a b with g | g | g
  .exact g
  .exact absurd g h2
  .exact absurd g h1
structure OptR (t:Tb) (fds:List Fd) (u:Upd) (T:Nat->Bool):Prop where
 cores:CoresOk t fds u.cores
 hit:MinOk (vsC u.cores).length (ap (vsC u.cores).length) (u.cores.map (dK (vsC u.cores))) T
 cells:u.cells=dH (vsC u.cores) T
 enough:okB (aQ t fds u.cells)=true
 tab:u.tab=sY t fds u.cells
 prf:pZ (ap (vsC u.cores).length) (u.cores.map (dK (vsC u.cores))) u.cells.length u.prf=true
 plen:u.prf.length<=1023
noncomputable def qP(cores:List (List Cr)):List Cr:=(fh (ap (vsC cores).length) (cores.map (dK (vsC cores))) 20000).map (eh (vsC cores))
noncomputable def optP(cores:List (List Cr)):List Nde:=((iS (ap (vsC cores).length) (cores.map (dK (vsC cores))) ((vsC cores).length+1) (tg (vsC cores).length 0) 20000 (wl (ap (vsC cores).length) (fh (ap (vsC cores).length) (cores.map (dK (vsC cores))) 20000))).getD ([],0)).1
noncomputable def optG(t:Tb)(fds:List Fd):Nat->List (List Cr)->Upd
 | 0,cores=>⟨[],t,cores,[]⟩
 | f+1,cores=>if okB (aQ t fds (qP cores))=true then⟨qP cores,sY t fds (qP cores),cores,optP cores⟩ else optG t fds f (dC (cores++[qQ t fds (qP cores)]))
noncomputable def optU(t:Tb)(fds:List Fd):Upd:=optG t fds 514 []
def lK(n:Nat):(ap n).length=n:=by simp[ap]
def optL_ok{t:Tb}{fds:List Fd}{cores:List (List Cr)}(f:CoresOk t fds cores)(j:t.rows.length*t.attrs.length<=9):∃T,MinOk (vsC cores).length (ap (vsC cores).length) (cores.map (dK (vsC cores))) T/\fh (ap (vsC cores).length) (cores.map (dK (vsC cores))) 20000=(tr (vsC cores).length).filter T/\qP cores=dH (vsC cores) T /\
  (iS (ap (vsC cores).length) (cores.map (dK (vsC cores))) ((vsC cores).length+1) (tg (vsC cores).length 0) 20000 (wl (ap (vsC cores).length) (fh (ap (vsC cores).length) (cores.map (dK (vsC cores))) 20000))).isSome=true /\
  (optP cores).length<=1023/\pZ (ap (vsC cores).length) (cores.map (dK (vsC cores))) (qP cores).length (optP cores)=true:=by
 have m:=f.vlen
 have o:(2:Int)^((vsC cores).length+1)<=1024:=by
  have h1:(2:Nat)^((vsC cores).length+1)<=2^10:=uo ω ω
  exact_mod_cast h1
 obtain⟨T,i,a⟩:=minL_ok (f.hsb j) (by rw[lK];omega) (lf:=20000) (by rw[lK];omega);have d:=pA (f.hsb j) (lf:=20000) (by rw[lK];omega) (T:=T) i;rw[lK]at i a d;obtain⟨P,b,n,l,g⟩:=d
 have e:qP cores=dH (vsC cores) T:=by unfold qP;rw[a];rfl
 have k:dA (ap (vsC cores).length) T (vsC cores).length=wl (ap (vsC cores).length) (fh (ap (vsC cores).length) (cores.map (dK (vsC cores))) 20000):=by rw[eE,a]
 have h:dA (ap (vsC cores).length) T (vsC cores).length=((qP cores).length:Nat):=by rw[og,e];simp[dH]
 have c:optP cores=P.1:=by unfold optP;rw[<-k,b];rfl
 refine⟨T,i,a,e,by rw[<-k,b];rfl,by rw[c];omega,?_⟩;rw[c,<-h];exact g
theorem optG_ok{t:Tb}{fds:List Fd}(hv:TbV t)(d:t.rows.length*t.attrs.length<=9):∀(f:Nat) (cores:List (List Cr)),CoresOk t fds cores->513<=f+cores.length->∃T,OptR t fds (optG t fds f cores) T
 | 0,cores,c,h=>by have:=c.len d;omega
 | f+1,cores,c,h=>by
  obtain⟨T,h1,h2,e,j,g,i⟩:=optL_ok c d;rw[optG];by_cases a:okB (aQ t fds (qP cores))=true
  .rw[if_pos a];exact⟨T,c,h1,e,a,rfl,i,g⟩
  .rw[if_neg a];have b:=c.add hv h1 (by rw[<-e];exact fun h=>a (nY.2 h));rw[<-e]at b;exact optG_ok hv d f _ b.1 ω
def optU_ok{t:Tb}{fds:List Fd}(hv:TbV t)(a:t.rows.length*t.attrs.length<=9):∃T,OptR t fds (optU t fds) T:=optG_ok hv a 514 [] (CoresOk.nil t fds) ω
end
section
open Go Go.AM Go.Proofs.Tryz
def CO(cores:List (List Cr)):B:=.buf 85 1 (cores.map (LC false)) false
def CO_rb(n:Nat)(cores:List (List Cr)):rbB n (CO cores):=(rbB_buf1 (fun x hx=>by obtain⟨K,_,rfl⟩:=List.mem_map.1 hx;exact⟨LC_pure _ _,rfl⟩)).2 trivial
def problem_l0(cores:List (List Cr))(d h g:B)(u:∀k,4<=k->rbB k d/\rbB k h/\rbB k g)(n:Nat)(hn:cores.length=n)(a7:n<=100000)(hK:∀K∈cores,K.length<=100000)(hT:cores.flatten.length<=1000000):
  ak prog 35 [.buf 3 0 n n] [d,h,g,.buf 85 1 (cores.map (LC false)) false] fun x y=>∃G r',y=[d,h,g,.buf 85 1 (cores.map (LC false)) false]++G/\ExpN y 4 x r'/\AM.Pure r'/\r'=PRB cores:=by
 have f:=concat_cores cores false false hn a7 hK hT;obtain⟨F,hF⟩:=ξ cores.flatten;obtain⟨N,hN⟩:∃N,F.length=N:=⟨_,rfl⟩;obtain⟨S,hS⟩:=ξ (gz F)
 have U:S.length=N:=by rw[hS,ot,hN]
 obtain⟨vs,R⟩:=ξ (fJ S)
 have ay:vsC cores=vs:=by unfold vsC;rw[<-hF,<-hS,R]
 obtain⟨m,hm⟩:∃m,vs.length=m:=⟨_,rfl⟩
 have bx:m<=N:=by rw[<-hm,R,<-U];exact cpF_len S S.length
 obtain⟨t,I⟩:=ξ (vs++tg (N-m) (⟨0,0⟩:Cr))
 have J:t.length=N:=by rw[I,uB,xB];omega
 have a8:=cU t
 have bY:N<=1000000:=by rw[<-hN,hF];exact hT
 rw[<-hF]at f
 have E:∀k,rbB k (.buf 85 1 (cores.map (LC false)) false):=fun k=>CO_rb k cores
 have hZ:∀k,rbB k (B.cells [.nilS,.nilS]):=fun k c q=>by simp at q;rcases q with rfl | rfl<;>simp[rb]
 have Z:∀bl∈[d,h,g,.buf 85 1 (cores.map (LC false)) false,B.cells [.nilS,.nilS],.buf 101 2 (crL S) false],rbB 6 bl:=by
  intro bl b;simp only[tw,tq,or_false]at b
  rcases b with rfl | rfl | rfl | rfl | rfl | rfl
  .exact(u 6 ω).1
  .exact(u 6 ω).2.1
  .exact(u 6 ω).2.2
  .exact E _
  .exact hZ _
  .exact pU _ _ _ _
 have o:=sortCells_u (H:=[d,h,g,.buf 85 1 (cores.map (LC false)) false,B.cells [.nilS,.nilS],.buf 101 2 (crL F) false]) (k:=5) F N hN ζ ω;rw[<-hS]at o;have p:=compact_h (H:=[d,h,g,.buf 85 1 (cores.map (LC false)) false,B.cells [.nilS,.nilS],.buf 101 2 (crL S) false]) (k0:=5) ζ Z S N U bY;rw[<-R,hm,<-I]at p;simp only[CB,xA,wZ]at o p;simp only[LLC]at f;refine aH tok func35 rfl rfl ?_;refine wx ?_;simp -dsimp[f35,tg,LC,LLC]
 refine bd (conH_of_conOL (args:=[.buf 3 0 n n]) f rfl (fun i a a' h1 h2=>by
  match i with
  | 0=>simp at h1 h2;subst h1;subst h2;exact exp_CO (e:=85) (fz:=false) rfl hn
  | i+1=>simp at h1) (fun e z xs hx=>by obtain⟨_,_,rfl⟩:=hx;exact crL_scalar F)) ?_
 rintro r H' ⟨e,z,xs,rfl,rfl,_,rfl,rfl,rfl⟩;rw[cU,hN];simp -dsimp[LC,LLC];refine bd o ?_;rintro r H' ⟨rfl,rfl⟩;simp -dsimp[LC,LLC];refine bd p ?_;rintro r H' ⟨rfl,rfl⟩;simp -dsimp[a8,J,LC,LLC]
 have Q:∀(k:Nat) (l:List Int) (fz:Bool),rbB k (.buf 2 1 (l.map aG) fz):=fun k l fz=>(rbB_buf1 (fun x hx=>by obtain⟨y,_,rfl⟩:=List.mem_map.1 hx;exact⟨by simp[aG],rfl⟩)).2 trivial
 have an:∀(k:Nat) (l:List Nat) (fz:Bool),rbB k (.buf 3 1 (nuL l) fz):=fun k l fz=>(rbB_buf1 (eS l)).2 trivial
 have Y:∀(k:Nat) (es:List (List Nat)) (fz:Bool),rbB k (.buf 42 1 (es.map (Ln false)) fz):=fun k es fz=>(rbB_buf1 (fun x hx=>by obtain⟨e,_,rfl⟩:=List.mem_map.1 hx;exact⟨ζ,rfl⟩)).2 trivial
 have a2:∀i:Nat,∀bl∈[d,h,g,.buf 85 1 (cores.map (LC false)) false,B.cells [.nilS,.nilS],.buf 101 2 (crL t) false,B.cells [.buf 7 0 i i,.nilS],.buf 2 1 ((ap i).map aG) false],rbB 8 bl:=by
  intro i bl b;simp only[tw,tq,or_false]at b
  rcases b with rfl | rfl | rfl | rfl | rfl | rfl | rfl | rfl
  .exact(u 8 ω).1
  .exact(u 8 ω).2.1
  .exact(u 8 ω).2.2
  .exact E _
  .exact hZ _
  .exact pU _ _ _ _
  .intro c q;simp at q;rcases q with rfl | rfl<;>simp[rb]
  .exact Q _ _ _
 have b3:∀(i j:Nat) (es:List (List Nat)),∀bl∈[d,h,g,.buf 85 1 (cores.map (LC false)) false,B.cells [.nilS,.nilS],.buf 101 2 (crL t) false,B.cells [.buf 7 0 i i,.buf 8 0 j j],.buf 2 1 ((ap i).map aG) false,.buf 42 1 (es.map (Ln false)) false],rbB 9 bl:=by
  intro i j es bl b;simp only[tw,tq,or_false]at b
  rcases b with rfl | rfl | rfl | rfl | rfl | rfl | rfl | rfl | rfl
  .exact(u 9 ω).1
  .exact(u 9 ω).2.1
  .exact(u 9 ω).2.2
  .exact E _
  .exact hZ _
  .exact pU _ _ _ _
  .intro c q;simp at q;rcases q with rfl | rfl<;>simp[rb]
  .exact Q _ _ _
  .exact Y _ _ _
 have be:∀(i j:Nat) (es:List (List Nat)) (l:List Nat),∀bl∈[d,h,g,.buf 85 1 (cores.map (LC false)) false,B.cells [.nilS,.nilS],.buf 101 2 (crL t) false,B.cells [.buf 7 0 i i,.buf 8 0 j j],.buf 2 1 ((ap i).map aG) false,.buf 42 1 (es.map (Ln false)) false,.buf 3 1 (nuL l) false],rbB 10 bl:=by
  intro i j es l bl b;simp only[tw,tq,or_false]at b
  rcases b with rfl | rfl | rfl | rfl | rfl | rfl | rfl | rfl | rfl | rfl
  .exact(u 10 ω).1
  .exact(u 10 ω).2.1
  .exact(u 10 ω).2.2
  .exact E _
  .exact hZ _
  .exact pU _ _ _ _
  .intro c q;simp at q;rcases q with rfl | rfl<;>simp[rb]
  .exact Q _ _ _
  .exact Y _ _ _
  .exact an _ _ _
 refine aI (cx 2 1 [] 6 [0] rfl ζ ζ (W_loopM 29 0x1fe00000 zMx (σ:=Nat) (fun i=>i<=m) (fun i=>m-i) (fun i=>[(21,.int .i64 i)]) (fun i=>[d,h,g,.buf 85 1 (cores.map (LC false)) false,B.cells [.nilS,.nilS],.buf 101 2 (crL t) false,B.cells [.buf 7 0 i i,.nilS],.buf 2 1 ((ap i).map aG) false]) 0 ω ζ (by simp[ap]) ζ ?_));intro i hi N1 Q1 br bv
 have bb:(ap i).length=i:=by simp[ap]
 by_cases hb:i<m
 .have a6:ap (i+1)=ap i++[1]:=by unfold ap;rw[List.replicate_succ']
  refine wx ?_;simp -dsimp[hb,(ω:(i:Int)<m),aE i ω,bb,jx i ω,LC,LLC];refine br (i+1) _ _ ω ω ζ ⟨[],by simp[a6,aG]⟩ ζ (a2 (i+1))
 .obtain rfl:i=m:=by omega
  obtain⟨s,D⟩:∃s:Nat->List (List Nat),s=fun j=>(cores.take j).map fun K=>K.map (iU vs):=⟨_,rfl⟩
  have al:∀j,j<=n->(s j).length=j:=fun j hj=>by rw[D];simp;omega
  refine wx ?_;simp -dsimp[hb,(ω:¬(i:Int)<i),LC,LLC];apply bv;simp -dsimp[hn,LC,LLC];refine aI (cx 42 1 [] 6 [1] rfl ζ ζ (W_loopM 59 0x7ffffff80001d80 zMx (σ:=Nat) (fun j=>j<=n) (fun j=>n-j) (fun j=>[(31,.int .i64 j)]) (fun j=>[d,h,g,.buf 85 1 (cores.map (LC false)) false,B.cells [.nilS,.nilS],.buf 101 2 (crL t) false,B.cells [.buf 7 0 i i,.buf 8 0 j j],.buf 2 1 ((ap i).map aG) false,.buf 42 1 ((s j).map (Ln false)) false]) 0 ω (by simp[hn]) (by simp[D]) ζ ?_));intro j hj N2 Q2 b2 aJ;have M:=al j hj;by_cases ad:j<n
  .have V:j<cores.length:=by omega
   obtain⟨K,O⟩:=ξ (cores[j])
   have b4:K.length<=100000:=by rw[O];exact hK _ (ti _)
   have X:s (j+1)=s j++[K.map (iU vs)]:=by rw[D];simp only;rw[tz V,uu,<-O];rfl
   refine wx ?_;simp -dsimp[ad,V,hn,O.symm,ab,(ω:(j:Int)<n),LC,LLC]
   obtain⟨C,A⟩:∃C:Nat->List Nat,C=fun x=>(K.take x).map (iU vs):=⟨_,rfl⟩
   have ax:∀x,x<=K.length->(C x).length=x:=fun x hx=>by rw[A];simp;omega
   refine aI (bh 3 1 [8] ζ (W_loopM 52 0xfffe000001d00 zMx (σ:=Nat) (fun x=>x<=K.length) (fun x=>K.length-x) (fun x=>[(37,.int .i64 x),(8,.buf 9 0 x x)]) (fun x=>[d,h,g,.buf 85 1 (cores.map (LC false)) false,B.cells [.nilS,.nilS],.buf 101 2 (crL t) false,B.cells [.buf 7 0 i i,.buf 8 0 j j],.buf 2 1 ((ap i).map aG) false,.buf 42 1 ((s j).map (Ln false)) false,.buf 3 1 (nuL (C x)) false]) 0 ω ζ (by simp[A,nuL]) ζ ?_));intro x hx N3 Q3 bi az;have aA:=ax x hx
   have W:(nuL (C x)).length=x:=by rw[bJ,aA]
   by_cases P:x<K.length
   .obtain⟨c,q⟩:=ξ (K[x])
    have T:C (x+1)=C x++[iU vs c]:=by rw[A];simp only;rw[tz P,uu,<-q];rfl
    have L:=oV vs c false ω;obtain⟨w,hw⟩:=ξ (iU vs c)
    have ba:bsC vs c 0 vs.length=w:=by rw[hw];rfl
    rw[<-hw]at T;rw[ba]at L;simp only[ab]at L;refine wx ?_;simp -dsimp[P,q.symm,ab,(ω:(x:Int)<K.length),LC,LLC];refine(callX (args:=[.buf 5 0 i N,.agg [.int .i64 c.id,.int .i64 c.attr],.fn 69 []]) L rfl (fun a v v' h1 h2=>?_) (.tup _ (fun v hv=>by simp at hv;rcases hv with rfl | rfl<;>constructor))).mono ?_
    .match a with
     | 0=>simp at h1 h2;subst h1;subst h2;exact exp_pre (e:=101) (fz:=false) rfl I hm J
     | 1=>simp at h1 h2;subst h1;subst h2;exact .pure _ ζ
     | 2=>simp at h1 h2;subst h1;subst h2;exact .pure _ ζ
     | a+3=>simp at h1
    rintro r H' ⟨rfl,rfl⟩;simp -dsimp[W,jx x ω,aE x ω,LC,LLC];refine bi (x+1) _ _ ω ω ζ ⟨_,by simp[T,nuL,eN];rfl⟩ ζ (be i j (s j) (C (x+1)))
   .obtain rfl:x=K.length:=by omega
    have b1:C K.length=K.map (iU vs):=by rw[A];simp
    rw[<-b1]at X;refine dv 9 [8] rfl (by simp[W]) ?_;refine wx ?_;simp -dsimp[P,(ω:¬(K.length:Int)<K.length),LC,LLC];apply az;simp -dsimp[M,eb j ω,aE j ω,LC,LLC];refine b2 (j+1) _ _ ω ω (by simp[hn]) ⟨_,by simp[X,Ln,nuL];rfl⟩ ζ (b3 i (j+1) (s (j+1)))
  .obtain rfl:j=n:=by omega
   have bz:s j=cores.map fun K=>K.map (iU vs):=by rw[D];simp only;rw[uY ω]
   refine wx ?_;simp -dsimp[ad,hn,(ω:¬(j:Int)<j),LC,LLC];apply aJ;simp -dsimp[LC,LLC]
   have hP:PRB cores = .tup [.agg [.lst 1 false ((ap i).map aG),.lst 1 false ((s j).map (Ln false))],LC false vs]:=by
    unfold PRB;rw[ay,hm,bz];rfl
   refine⟨?_,by rw[hP];simp[aG]⟩;rw[hP];refine .tup _ _ rfl (se (.agg _ _ rfl (se ?_ ?_)) ?_)
   .have:=oD (n:=4) (k:=7) (len:=i) (tot:=i) (show 4<=7 by omega) (H:=[d,h,g,.buf 85 1 (cores.map (LC false)) false,B.cells [.buf 7 0 i i,.buf 8 0 j j],.buf 101 2 (crL t) false,B.cells [.buf 7 0 i i,.buf 8 0 j j],.buf 2 1 ((ap i).map aG) false,.buf 42 1 ((s j).map (Ln false)) false]) (e:=2) (z:=1) (fz:=false) rfl (by simp[ap]) (uA _) (fun x hx=>by obtain⟨y,_,rfl⟩:=List.mem_map.1 hx;simp[aG])
    rwa [uY (by simp[ap])]at this
   .have:=oD (n:=4) (k:=8) (len:=j) (tot:=j) (show 4<=8 by omega) (H:=[d,h,g,.buf 85 1 (cores.map (LC false)) false,B.cells [.buf 7 0 i i,.buf 8 0 j j],.buf 101 2 (crL t) false,B.cells [.buf 7 0 i i,.buf 8 0 j j],.buf 2 1 ((ap i).map aG) false,.buf 42 1 ((s j).map (Ln false)) false]) (e:=42) (z:=1) (fz:=false) rfl (by rw[ud,M]) (uA _) (fun x hx=>by obtain⟨y,_,rfl⟩:=List.mem_map.1 hx;simp)
    rwa [uY (by rw[ud,M];exact uA _)]at this
   .have:=oD (n:=4) (k:=5) (len:=i) (tot:=N) (show 4<=5 by omega) (H:=[d,h,g,.buf 85 1 (cores.map (LC false)) false,B.cells [.buf 7 0 i i,.buf 8 0 j j],.buf 101 2 (crL t) false,B.cells [.buf 7 0 i i,.buf 8 0 j j],.buf 2 1 ((ap i).map aG) false,.buf 42 1 ((s j).map (Ln false)) false]) (e:=101) (z:=2) (fz:=false) rfl (by rw[cU,J]) bx (fun x hx=>(sw t x hx).1)
    have e1:(crL t).take i=vs.map ab:=by
     rw[I];unfold crL;rw[uu,xt (by rw[ud,hm])]
    rwa [e1]at this
def problem_l(cores:List (List Cr))(a b c:B)(f:∀k,4<=k->rbB k a/\rbB k b/\rbB k c)(n:Nat)(hn:cores.length=n)(d:n<=100000)(e:∀K∈cores,K.length<=100000)(g:cores.flatten.length<=1000000):
  ak prog 35 [.buf 3 0 n n] [a,b,c,CO cores] fun r H'=>r=PRB cores/\AM.Pure r/\H'=[a,b,c,CO cores] :=
 tC (K:=fun r=>r=PRB cores) (problem_l0 cores a b c f n hn d e g)
def prove_f{ws:List Int}{es:List (List Nat)}(hb:HsB ws es)(f g:Bool)(b lf:Int)(P:List Nde×Int)(h:iS ws es (ws.length+1) (tg ws.length 0) lf b=some P)(h1:1<=lf)(h2:lf<=9000000000000000000)(e : -1000000000000000<=b)(k:b<=1000000000000000)(j : -9000000000000000000<=P.2)(hl:P.1.length<=1000000):
  aK prog 33 [aV f g ws es,.int .i64 b,.int .i64 lf] fun r=>r = .tup [LNd false P.1,.int .i64 0]:=by
 refine iz (prove_u hb f g b lf P h h1 h2 e k j hl) (fun s u r hr hrel=>?_);obtain⟨fl,rfl⟩:=hr;refine⟨_,?_,ζ,rfl⟩
 cases hrel with
 | tup _ us hl d =>
  refine .tup _ us hl (fun i c u a hu=>?_)
  match i with
  | 0 =>
   simp only[vI,Option.some.injEq]at a;subst a;refine ma (d 0 _ u rfl hu) ?_;cases fl
   .exact .inl rfl
   .exact .inr (.inl ⟨2,_,rfl,rfl⟩)
  | 1=>exact d 1 c u a hu
  | i+2=>simp at a
def minimum_f{ws:List Int}{es:List (List Nat)}(hb:HsB ws es)(f g:Bool)(hn:ws.length<=12)(lf:Int)(d:2^(ws.length+1)-1<=lf)(h1:1<=lf)(h2:lf<=9000000000000000000):
  aK prog 32 [aV f g ws es,.int .i64 lf] fun r=>r = .tup [.lst 1 false ((fh ws es lf).map eN),.int .i64 (wl ws (fh ws es lf)),.int .i64 0]:=by
 refine iz (minimum_u hb f g hn lf d h1 h2) (fun s u r hr hrel=>?_);obtain⟨fl,rfl⟩:=hr;refine⟨_,?_,by simp[eN],rfl⟩
 cases hrel with
 | tup _ us hl b =>
  refine .tup _ us hl (fun i c u a hu=>?_)
  match i with
  | 0 =>
   simp only[vI,Option.some.injEq]at a;subst a;refine ma (b 0 _ u rfl hu) ?_;cases fl
   .exact .inl rfl
   .exact .inr (.inl ⟨1,_,rfl,rfl⟩)
  | 1=>exact b 1 c u a hu
  | 2=>exact b 2 c u a hu
  | i+3=>simp at a
def Optimal_u(t:Tb)(E F df:Bool)(fds:List Fd)(hv:TbV t)(hB:TbN t)(hval:validT t=0)(hF:ef fds)(b5:dO t.attrs.length fds=0)(Y:t.rows.length*t.attrs.length<=9):
  aK prog 15 [aD E F t,LF df fds,.int .i64 20000] fun r=>r = .tup [encUp (optU t fds),.int .i64 0]:=by
 obtain⟨U,hU⟩:=ξ (optU t fds);rw[<-hU];have ht:=hv.ok;have c0:=check_nil t E F df fds ht hF
 have b8:tV t fds=0:=by unfold tV;simp[hval,b5,(ω:¬60<t.rows.length*t.attrs.length)]
 rw[b8]at c0;simp only[aD,LS,LR,LC,LF]at c0;refine conP_of_dropN (tC (K:=fun r=>r = .tup [encUp U,.int .i64 0]) ?_);refine aH tok func15 rfl rfl ?_;refine wx ?_;simp -dsimp[f15,tg,aD,LS,LR,LC,LF];refine cPx c0 ?_;simp -dsimp[aD,LS,LR,LC,LF];refine aI (cx 85 1 [] 2 [4] rfl ζ ζ (W_loopM 101 0x1ffffffffffffffffff8017c80 zMx (σ:=List (List Cr)×V) (fun p=>CoresOk t fds p.1/\(p.2 = .nilS\/∃L,p.2=LC false L)/\optG t fds (514-p.1.length) p.1=U) (fun p=>513-p.1.length) (fun p=>[]) (fun p=>[B.cells [.str t.name,.lst 1 E (t.attrs.map V.str),.lst 2 F (t.rows.map aF)],B.cells [.nilS,.str tp,.nilS,.nilS,.nilS,.nilS],B.cells [p.2,.str tp,.nilS,.nilS,.buf 3 0 p.1.length p.1.length,.nilS],B.buf 85 1 (p.1.map (LC false)) false]) ([],.nilS) ⟨CoresOk.nil t fds,.inl rfl,hU.symm⟩ ζ ζ ζ ?_));rintro⟨cores,cv⟩ ⟨w,a8,aJ⟩ N Q hN hQ;simp only at w a8 aJ hN;obtain⟨n,hn⟩:∃n,cores.length=n:=⟨_,rfl⟩;rw[hn]
 have cA:n<=512:=by rw[<-hn];exact w.len Y
 have br:AM.Pure cv/\cv.one=true:=by
  rcases a8 with rfl | ⟨L,rfl⟩
  .exact⟨.nilS,rfl⟩
  .exact⟨LC_pure _ _,rfl⟩
 obtain⟨al,Z⟩:=br
 have an:∀k,rbB k (B.cells [.str t.name,.lst 1 E (t.attrs.map V.str),.lst 2 F (t.rows.map aF)]):=fun k=>by simp
 have a6:∀k,rbB k (B.cells [.nilS,.str tp,.nilS,.nilS,.nilS,.nilS]):=fun k=>by simp
 have a7:∀(v:V) (k n:Nat),AM.Pure v->v.one=true->3<k->rbB k (B.cells [v,.str tp,.nilS,.nilS,.buf 3 0 n n,.nilS]):=fun v k n h1 h2 hk c o=>by
  simp only[tw,tq,or_false]at o
  rcases o with rfl | rfl | rfl | rfl | rfl | rfl
  .exact cT h1 h2
  all_goals simp[rb]
  all_goals omega
 have bz:∀(k:Nat) (cs:List (List Cr)),rbB k (B.buf 85 1 (cs.map (LC false)) false):=fun k cs=>CO_rb k cs
 have cp:=problem_l cores (B.cells [.str t.name,.lst 1 E (t.attrs.map V.str),.lst 2 F (t.rows.map aF)]) (B.cells [.nilS,.str tp,.nilS,.nilS,.nilS,.nilS]) (B.cells [cv,.str tp,.nilS,.nilS,.buf 3 0 n n,.nilS]) (fun k hk=>⟨an k,a6 k,a7 cv k n al Z ω⟩) n hn ω (fun K hK=>by have:=w.klen K hK;omega) (w.flen Y);obtain⟨vs,a⟩:=ξ (vsC cores);obtain⟨m,hm⟩:∃m,vs.length=m:=⟨_,rfl⟩;obtain⟨es,I⟩:=ξ (cores.map (dK vs))
 have c2:m<=9:=by rw[<-hm,a];have:=w.vlen;omega
 have hsb:=w.hsb Y
 have cE:PRB cores = .tup [aV false false (ap m) es,LC false vs]:=by
  unfold PRB;rw[w.edges,<-a,hm,<-I]
 rw[cE]at cp;rw[<-a,hm,<-I]at hsb
 have A:(ap m).length=m:=by simp[ap]
 have c4:(2:Int)^(m+1)<=1024:=by
  have h1:(2:Nat)^(m+1)<=2^10:=uo ω ω
  exact_mod_cast h1
 have cm:=minimum_f hsb false false (by rw[A];omega) 20000 (by rw[A];omega) ω ω;obtain⟨T,hT,ay,ax,b,aA,s⟩:=optL_ok w Y;rw[<-a,hm,<-I]at hT ay b s;rw[<-a]at ax;rw[ay]at cm b;simp only[aV,L1,LLn,LC,CO]at cp cm;refine wx ?_;simp -dsimp[hn,aD,LS,LR,LC,LF];refine bd cp ?_;rintro r H' ⟨rfl,_,rfl⟩;simp -dsimp[aD,LS,LR,LC,LF];refine cPx cm ?_;simp -dsimp[aD,LS,LR,LC,LF]
 have c6:∀(k:Nat) (l:List Int) (fz:Bool),rbB k (.buf 2 1 (l.map aG) fz):=fun k l fz=>(rbB_buf1 (fun x hx=>by obtain⟨y,_,rfl⟩:=List.mem_map.1 hx;exact⟨by simp[aG],rfl⟩)).2 trivial
 have cI:∀(x:Nat) (l:List Cr),∀bl∈[B.cells [.str t.name,.lst 1 E (t.attrs.map V.str),.lst 2 F (t.rows.map aF)],B.cells [.nilS,.str tp,.nilS,.nilS,.nilS,.nilS],B.cells [.buf 5 0 x x,.str tp,.nilS,.nilS,.buf 3 0 n n,.nilS],B.buf 85 1 (cores.map (LC false)) false,B.cells [.lst 1 false ((ap m).map aG),.lst 1 false (es.map (Ln false))],B.buf 101 2 (crL l) false],rbB 6 bl:=by
  intro x l bl G;simp only[tw,tq,or_false]at G
  rcases G with rfl | rfl | rfl | rfl | rfl | rfl
  .exact an _
  .exact a6 _
  .intro c o;simp only[tw,tq,or_false]at o
   rcases o with rfl | rfl | rfl | rfl | rfl | rfl<;>simp[rb]
  .exact bz _ _
  .intro c o;simp only[tw,tq,or_false]at o
   rcases o with rfl | rfl
   .exact cT (by simp[aG]) rfl
   .exact cT ζ rfl
  .exact pU _ _ _ _
 obtain⟨g,j⟩:=ξ ((tr m).filter T);rw[<-j]at b
 have c1:g.length<=m:=by rw[j];exact ug (uU _ _) ζ
 obtain⟨pF,X⟩:∃pF:Nat->List Cr,pF=fun x=>(g.take x).map (eh vs):=⟨_,rfl⟩
 have ck:∀x,x<=g.length->(pF x).length=x:=fun x hx=>by rw[X];simp;omega
 rw[<-j];refine aI (cx 101 2 [] 2 [0] rfl ζ ζ (W_loopM 60 0xfffc00048010000 zMx (σ:=Nat) (fun x=>x<=g.length) (fun x=>g.length-x) (fun x=>[(46,.int .i64 x)]) (fun x=>[B.cells [.str t.name,.lst 1 E (t.attrs.map V.str),.lst 2 F (t.rows.map aF)],B.cells [.nilS,.str tp,.nilS,.nilS,.nilS,.nilS],B.cells [.buf 5 0 x x,.str tp,.nilS,.nilS,.buf 3 0 n n,.nilS],B.buf 85 1 (cores.map (LC false)) false,B.cells [.lst 1 false ((ap m).map aG),.lst 1 false (es.map (Ln false))],B.buf 101 2 (crL (pF x)) false]) 0 ω ζ (by simp[X,crL]) ζ ?_));intro x hx N2 Q2 b9 bi;have S:=ck x hx;have a2:=cU (pF x);by_cases hb:x<g.length
 .obtain⟨v,az⟩:=ξ (g[x])
  have b7:v<m:=by
   have h1:v∈g:=by rw[az];exact ti _
   rw[j]at h1;exact List.mem_range.1 (List.mem_filter.1 h1).1
  have b4:v<vs.length:=by omega
  obtain⟨c,b2⟩:=ξ (vs[v])
  have cw:eh vs v=c:=by rw[b2];simp[eh,b4]
  have ct:pF (x+1)=pF x++[c]:=by rw[X];simp only;rw[tz hb,uu,<-az,List.map_singleton,cw]
  refine wx ?_;simp -dsimp[hb,az.symm,eN,(ω:(x:Int)<g.length),aD,LS,LR,LC,LF];refine aI (ae tok mixed [7,9] [] [] υ fun C K hC hK=>?_);simp -implicitDefEqProofs [b7,b4,hm,b2.symm,ab,a2,S,tO x ω,aD,LS,LR,LC,LF];apply hK;simp -dsimp[aE x ω,aD,LS,LR,LC,LF];refine b9 (x+1) _ _ ω ω ζ ⟨[],by simp[ct,crL,ab]⟩ (by simp[al,Z]) (cI _ _)
 .obtain rfl:x=g.length:=by omega
  obtain⟨L,hL⟩:=ξ (pF g.length)
  have D:L=dH vs T:=by rw[hL,X];simp only;rw[uV,j,<-hm];rfl
  have bx:aS vs:=by rw[a];exact gM _
  have W:aS L:=by rw[D];exact mN bx T
  have R:∀c∈L,c∈bR t:=fun c J=>by
   rw[D]at J;have:=tK c J;rw[a]at this;exact w.vsub c this
  have c5:L.length<=9:=by have:=lC (bt W) R;omega
  have ci:L.length=g.length:=by rw[hL];exact S
  rw[<-hL]at S a2 ⊢;have ce:=enough_u t E F df false fds L hv hF W ω;simp only[aD,LS,LR,LC,LF]at ce;refine fA 5 [] 2 [0] rfl rfl ζ (by simp[a2,S]) ?_
  cases q:okB (aQ t fds L) with
  | true =>
   rw[q]at ce;refine wx ?_;simp -dsimp[hb,(ω:¬(g.length:Int)<g.length),aD,LS,LR,LC,LF];apply bi;simp -dsimp[aD,LS,LR,LC,LF]
   have hw:wl (ap m) g=(L.length:Nat):=by rw[rG m g (fun v hv=>by rw[j]at hv;exact List.mem_range.1 (List.mem_filter.1 hv).1),ci]
   have ad:qP cores=L:=by rw[ax,D]
   obtain⟨P,hP⟩:=Option.isSome_iff_exists.1 b
   have bY:optP cores=P.1:=by unfold optP;rw[<-a,hm,<-I,ay,<-j,hP];rfl
   rw[bY]at aA s;rw[ad]at s;have b1:=pA hsb (lf:=20000) (by rw[A];omega) (T:=T) (by rw[A];exact hT);rw[A,eE,<-j,hP]at b1;obtain⟨P',cj,c3,_,_⟩:=b1;cases cj
   have cB:U=⟨L,sY t fds L,cores,P.1⟩:=by
    rw[<-aJ,(ω:514-cores.length=(513-cores.length)+1),optG,ad,if_pos q,bY]
   have bv:=prove_f hsb false false (wl (ap m) g) 20000 P (by rw[A];exact hP) ω ω (by rw[hw];omega) (by rw[hw];omega) ω ω;have cf:=Fill_u t E F df false fds L ht hB hF ω;unfold FillR at cf;rw[if_pos (chk_ok hv hval b5 ω ⟨W,R,ω⟩),q,if_pos rfl]at cf;obtain⟨T2,be⟩:=ξ (sY t fds L);rw[<-be]at cf;simp only[aV,L1,LLn,LNd,aD,LS,LR,LC,LF]at bv cf;refine cPx ce ?_;simp -dsimp[aD,LS,LR,LC,LF];refine cPx bv ?_;simp -dsimp[aD,LS,LR,LC,LF];refine cPx cf ?_;simp -dsimp[aD,LS,LR,LC,LF];apply hQ;simp -dsimp[aD,LS,LR,LC,LF];rw[cB,<-be];refine⟨?_,by unfold encUp;simp⟩
   .refine .tup _ _ rfl (se (.agg _ _ rfl (fun i c d h1 h2=>?_)) (.pure _ ζ))
    match i with
    | 0=>simp at h1 h2;subst h1;subst h2;exact .pure _ (LC_pure false L)
    | 1=>simp at h1 h2;subst h1;subst h2;exact .pure _ ζ
    | 2=>simp at h1 h2;subst h1;subst h2;exact .pure _ (LS_pure false T2.attrs)
    | 3=>simp at h1 h2;subst h1;subst h2;exact .pure _ (LR_pure false T2.rows)
    | 4 =>
     simp at h1 h2;subst h1;subst h2;have:=oD (n:=0) (k:=3) (len:=n) (tot:=n) (wV _) (H:=[B.cells [.str t.name,.lst 1 E (t.attrs.map V.str),.lst 2 F (t.rows.map aF)],B.cells [.lst 2 false (crL L),.str T2.name,.lst 1 false (T2.attrs.map V.str),.lst 2 false (T2.rows.map aF),.buf 3 0 n n,.lst 2 false (P.1.map iJ)],B.cells [.lst 2 false (crL L),.str T2.name,.lst 1 false (T2.attrs.map V.str),.lst 2 false (T2.rows.map aF),.buf 3 0 n n,.lst 2 false (P.1.map iJ)],B.buf 85 1 (cores.map (LC false)) false,B.cells [.lst 1 false ((ap m).map aG),.lst 1 false (es.map (Ln false))],B.buf 101 2 (crL L) true]) (e:=85) (z:=1) (fz:=false) rfl (by simp[hn]) (uA _) (fun x hx=>by obtain⟨y,_,rfl⟩:=List.mem_map.1 hx;simp)
     rwa [uY (by simp[hn])]at this
    | 5=>simp at h1 h2;subst h1;subst h2;exact .pure _ ζ
    | i+6=>simp at h1
  | false =>
   rw[q]at ce;refine wx ?_;simp -dsimp[hb,(ω:¬(g.length:Int)<g.length),aD,LS,LR,LC,LF];apply bi;simp -dsimp[aD,LS,LR,LC,LF]
   have b6:¬Okq (aQ t fds L):=fun h=>by rw[nY.2 h]at q;cases q
   have ca:=all_u t E F false L hv W ω;have cc:=core_u t E F df false fds (cH t L) hv hF (hv.sorted_others L) (kS t hv L);rw[coreG_flag _ _ _ rfl]at cc;have cg:(fW t fds false (cH t L) 0).2=qQ t fds L:=rfl;rw[cg]at cc;have u:=w.add hv (T:=T) (by rw[<-a,hm,<-I];exact hT) (by rw[<-a,<-D];exact b6);rw[<-a,<-D]at u;have bb:=newK_ok hv b6
   have M:optG t fds (514-(dC (cores++[qQ t fds L])).length) (dC (cores++[qQ t fds L]))=U:=by
    rw[u.2,<-aJ,(ω:514-cores.length=(514-(cores.length+1))+1),optG,show qP cores=L by rw[ax,D],if_neg (by rw[q];simp)]
   generalize qQ t fds L=KN at M cc u bb;obtain⟨k1,k2,k3⟩:=bb;obtain⟨J,b3⟩:=u
   have c7:KN.length<=9:=by have:=lC (bt k3) (fun c w=>(cz.1 (k2 c w)).1);omega
   obtain⟨O,hO⟩:=ξ (cH t L);rw[<-hO]at ca cc;simp only[aD,LS,LR,LC,LF]at ca cc
   have hs:=sortLists_u (H:=[B.cells [.str t.name,.lst 1 E (t.attrs.map V.str),.lst 2 F (t.rows.map aF)],B.cells [.nilS,.str tp,.nilS,.nilS,.nilS,.nilS],B.cells [.lst 2 false (crL L),.str tp,.nilS,.nilS,.buf 3 0 (n+1) (n+1),.nilS],B.buf 85 1 (cores.map (LC false)) false,B.cells [.lst 1 false ((ap m).map aG),.lst 1 false (es.map (Ln false))],B.buf 101 2 (crL L) true]) (k:=3) (e:=85) (f:=false) (cores++[KN]) (n+1) (by simp[hn]) ζ ω (fun l hl=>by
    rcases List.mem_append.1 hl with h | h
    .have:=w.klen l h;omega
    .rw[uQ]at h;subst h;omega)
   simp only[LB,xA,wZ,uu,vW,wP,LC]at hs;refine cPx ce ?_;simp -dsimp[aD,LS,LR,LC,LF];refine aI (ae tok mixed [10,12] [] [(.lst 2 false (O.map ab),[]),(.lst 2 false (KN.map ab),[])] υ fun C K hC hK=>?_);simp -implicitDefEqProofs [hn,eb n ω,aD,LS,LR,LC,LF];refine⟨by(repeat' apply And.intro)<;>first | exact hC _ _ _ _ (bQ ca (by simp[crL])) | exact hC _ _ _ _ (bQ cc ζ),hK _ _ ?_⟩;simp -dsimp[aD,LS,LR,LC,LF];refine bd hs ?_;rintro r H' ⟨rfl,rfl⟩;simp -dsimp[aD,LS,LR,LC,LF];obtain⟨cb,ba⟩:=ξ (dC (cores++[KN]));rw[<-ba]at J b3 M ⊢;refine hN (cb,LC false L) _ _ ⟨J,.inr ⟨L,rfl⟩,M⟩ θ ζ ⟨_,by simp[b3,hn,LC,crL];rfl⟩ ζ (fun bl G=>?_);simp only[tw,tq,or_false]at G
   rcases G with rfl | rfl | rfl | rfl
   .exact an _
   .exact a6 _
   .exact a7 _ _ _ (LC_pure _ _) rfl ζ
   .exact bz _ _
structure CaseV (t:Tb) (fds:List Fd):Prop where
 tv:TbV t
 num:TbN t
 valid:validT t=0
 small:t.rows.length*t.attrs.length<=9
 fok:ef fds
 ferr:dO t.attrs.length fds=0
 flen:fds.length<=3
 size:∀y,y<t.rows.length*t.attrs.length->(eG t y).s.size<=maxLen
 vals:∀y,y<t.rows.length*t.attrs.length->bO (eG t y)=true
 pos:∀r∈t.rows,0<r.id
def at_cell{t:Tb}(hv:TbV t){y:Nat}(b:y<t.rows.length*t.attrs.length):∃(i a:Nat) (hi:i<t.rows.length) (ha:a<t.rows[i].vals.length),eG t y=t.rows[i].vals[a]:=by
 have hn:0<t.attrs.length:=by
  rcases wz t.attrs.length with h | h
  .rw[h]at b;omega
  .exact h
 have hm:y / t.attrs.length<t.rows.length:=by rw[xZ hn];exact b
 have hl:=hv.len _ (ti hm)
 have ha:y % t.attrs.length<t.rows[y / t.attrs.length].vals.length:=by rw[hl];exact xU _ hn
 refine⟨_,_,hm,ha,?_⟩;unfold eG;rw[cS hm,lB ha]
def caseV{c:Cs}(v:CsV c):CaseV (csT c) (csF c):=by
 refine⟨v.tv,v.num,v.valid,v.small,v.fok,v.ferr,v.flen,fun y b=>?_,fun y b=>?_,?_⟩
 .obtain⟨i,a,hi,ha,e⟩:=at_cell v.tv b;obtain⟨k,hk⟩:=vl_of _ (ti hi) _ (ti ha);rw[e,hk];exact ug (ofV_n k).2 (by simp[maxLen])
 .obtain⟨i,a,hi,ha,e⟩:=at_cell v.tv b;rw[e];exact v.tv.vals _ (ti hi) _ (ti ha)
 .have hv:=v.valid;unfold Go.Proofs.YtnaokiodhoadjaaGreatDoor.validT at hv;rw[v.tv.name,if_pos rfl,if_neg (by have:=v.tv.attrs;have:=v.tv.rows;omega),v.tv.names,if_pos rfl]at hv;exact(jJ hv).1
structure Like (t u:Tb):Prop where
 name:u.name=t.name
 attrs:u.attrs=t.attrs
 rows:u.rows.length=t.rows.length
 ids:∀(i:Nat) (h:i<t.rows.length) (h2:i<u.rows.length),u.rows[i].id=t.rows[i].id
def OptR.cellsOk{t:Tb}{fds:List Fd}{u:Upd}{T:Nat->Bool}(g:CaseV t fds)(r:OptR t fds u T):CellsOk t u.cells/\u.cells.length<=9:=by
 have hs:aS u.cells:=by rw[r.cells];exact mN (gM _) T
 have a:∀c∈u.cells,c∈bR t:=fun c b=>by
  rw[r.cells]at b;exact r.cores.vsub c (tK c b)
 have hl:=lC (bt hs) a;have:=g.small;exact⟨⟨hs,a,ω⟩,ω⟩
def hit_least{t:Tb}{fds:List Fd}{u:Upd}{T:Nat->Bool}(r:OptR t fds u T){L:List Cr}(hL:Okq (aQ t fds L))(a:∀c∈L,c∈bR t)(b:L.Nodup):u.cells.length<=L.length:=by
 rw[r.cells];exact hit_le (bt (gM _)) (vs_sub _) (fun K d=>(r.cores.core K d).nec) r.hit hL a b
def sel_nodup{t:Tb}(hv:TbV t)(b:Int):(bK t b (t.rows.length*t.attrs.length)).Nodup:=by
 unfold bK;refine lO (List.nodup_range.filter _) (fun a ha b hb he=>?_);exact hv.crAt_inj (List.mem_range.1 (List.mem_filter.1 ha).1) (List.mem_range.1 (List.mem_filter.1 hb).1) he
def sel_sub{t:Tb}(b:Int):∀c∈bK t b (t.rows.length*t.attrs.length),c∈bR t:=fun c a=>by
 unfold bK at a;obtain⟨x,hx,rfl⟩:=List.mem_map.1 a;exact mZ (List.mem_range.1 (List.mem_filter.1 hx).1)
def OptR.least{t:Tb}{fds:List Fd}{u:Upd}{T:Nat->Bool}(g:CaseV t fds)(r:OptR t fds u T):u.cells.length=lsF t fds (t.rows.length*t.attrs.length) (2^(t.rows.length*t.attrs.length)):=by
 classical
 obtain⟨a,i⟩:=r.cellsOk g;refine Nat.le_antisymm ?_ ?_
 .rcases lsF_at (t:=t) (fds:=fds) (N:=t.rows.length*t.attrs.length) (2^(t.rows.length*t.attrs.length)) with h | ⟨b,hb,e,he⟩
  .rw[h];exact lC (bt a.sorted) a.mem
  .rw[he];exact hit_least r (nY.1 e) (sel_sub _) (sel_nodup g.tv _)
 .obtain⟨b,hb,hs⟩:=sel_all (t:=t) g.small (fun x=>decide (bZ t x∈u.cells))
  have d:bK t (b:Int) (t.rows.length*t.attrs.length)=u.cells:=by
   refine kF _ _ ?_ a.sorted (fun c=>?_)
   .rw[hs];unfold aS;rw[wD]
    refine(List.pairwise_lt_range.filter _).imp_of_mem fun {x y} hx hy h=>?_
    exact g.tv.cells_lt h (List.mem_range.1 (List.mem_filter.1 hy).1)
   .rw[hs,wc];constructor
    .rintro⟨x,hx,rfl⟩;exact of_decide_eq_true (List.mem_filter.1 hx).2
    .intro f;obtain⟨x,hx,rfl⟩:=List.mem_map.1 (a.mem c f);exact⟨x,List.mem_filter.2 ⟨hx,decide_eq_true f⟩,rfl⟩
  have:=lsF_le (t:=t) (fds:=fds) (N:=t.rows.length*t.attrs.length) (2^(t.rows.length*t.attrs.length)) b hb (by rw[d];exact r.enough)
  rwa [d]at this
end
end Go.Proofs.YtnaokiodhoadjaaGreatDoor
