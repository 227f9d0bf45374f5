/- JB33: texts SB1, SB2, SB5, SB3, SB6, SB7, SB8, SB4, SB9, SB10, SB11, SC1, SC6, SC4, SC5, joined and shortened by pack6.py. -/
import Derived.Test.YtnaokiodhoadjaaGreatDoorJB27
import Derived.Test.YtnaokiodhoadjaaGreatDoorJB32
set_option linter.all false
set_option maxRecDepth 100000
set_option maxHeartbeats 64000000
open List renaming replicate→tg,range→tr,length_cons→uX,cons_append→ur,all_cons→vE,getD→wU
open Nat renaming add_zero→vk,pow_succ→xf
namespace Go.Proofs.YtnaokiodhoadjaaGreatDoor
section
open Go Go.AM Go.Proofs.Tryz
def iN{vs:List Int}(ha:asc vs=true){x:Int}(hx:x∈vs):∃(h:bsP vs x<vs.length),vs[bsP vs x]=x:=by
 have:=bsF_mem ha x;rw[bP.2 hx]at this;have h2:=beq_iff_eq.1 this;obtain⟨a,b⟩:=List.getElem?_eq_some_iff.1 h2;exact⟨a,b⟩
def bsP_ix{vs:List Int}(ha:asc vs=true){i:Nat}(hi:i<vs.length):bsP vs vs[i]=i:=by
 obtain⟨h1,h2⟩:=iN ha (ti hi)
 rcases ve (bsP vs vs[i]) i with h | h | h
 .have:=nA ha _ _ h1 hi h;omega
 .exact h
 .have:=nA ha _ _ hi h1 h;omega
def bsP_lt{vs:List Int}(ha:asc vs=true){a b:Int}(hA:a∈vs)(c:b∈vs)(h:a<b):bsP vs a<bsP vs b:=by
 obtain⟨h1,d⟩:=iN ha hA;obtain⟨h2,e⟩:=iN ha c
 rcases ve (bsP vs a) (bsP vs b) with q | q | q
 .exact q
 .have:vs[bsP vs a]=vs[bsP vs b]:=by congr 1
  omega
 .have:=nA ha _ _ h2 h1 q;omega
def ixE(vs:List Int)(e:List Int):List Nat:=e.map (bsP vs)
def ixE_ok{vs:List Int}{es:List (List Int)}(h:Hyp vs es){e:List Int}(he:e∈es):ixE vs e≠[]/\(ixE vs e).Pairwise (· < ·)/\∀v∈ixE vs e,v<vs.length:=by
 have ha:=(fK vs).2 h.va;refine⟨fun e0=>h.ne e he (by simpa[ixE] using e0),?_,fun v hv=>?_⟩
 .unfold ixE;rw[wD];refine List.Pairwise.imp_of_mem ?_ (h.ea e he);intro a b hA d c;exact bsP_lt ha (h.sub e he a hA) (h.sub e he b d) c
 .obtain⟨a,hA,rfl⟩:=List.mem_map.1 hv;exact(iN ha (h.sub e he a hA)).1
def qT(es:List (List Int))(D:List Int):Bool:=es.all fun e=>e.any fun a=>cY D a
def hitB_iff{es:List (List Int)}{D:List Int} : qT es D=true↔∀e∈es,∃a∈e,a∈D:=by
 unfold qT;rw[uZ]
 refine forall_congr' fun e=>forall_congr' fun _=>?_
 rw[wY];exact⟨fun⟨a,h1,h2⟩=>⟨a,h1,bP.1 h2⟩,fun⟨a,h1,h2⟩=>⟨a,h1,bP.2 h2⟩⟩
def wI:List Int->List Int->List Int->Int
 | a::I,w::ws,D=>(if cY D a=true then w else 0)+wI I ws D
 | _,_,_=>0
theorem wI_congr:∀(I ws:List Int) {D c:List Int},(∀a∈I,a∈D↔a∈c)->wI I ws D=wI I ws c
 | [],_,_,_,_=>by simp[wI]
 | a::I,[],_,_,_=>by simp[wI]
 | a::I,w::ws,D,c,h=>by
  rw[wI,wI,wI_congr I ws fun b hb=>h b (uO _ hb)]
  have:cY D a=cY c a:=by rw[vH,bP,bP];exact h a (uN ..)
  rw[this]
theorem rI:∀(I ws:List Int) (D:List Int) (i:Nat) (h:i<I.length) (b:i<ws.length),wI I ws D=wI (I.eraseIdx i) (ws.eraseIdx i) D+(if cY D I[i]=true then ws[i] else 0)
 | [],_,_,i,h,_=>by simp at h
 | a::I,[],_,i,_,b=>by simp at b
 | a::I,w::ws,D,0,_,_=>by
  simp only[List.eraseIdx_cons_zero,List.getElem_cons_zero];rw[wI];omega
 | a::I,w::ws,D,i+1,h,b=>by
  have:=rI I ws D i (by simpa using h) (by simpa using b);simp only[List.eraseIdx_cons_succ,List.getElem_cons_succ];rw[wI,wI,this];omega
structure MinI (I ws:List Int) (E:List (List Int)) (m:Int):Prop where
 at_:∃D,qT E D=true/\wI I ws D=m
 le:∀D,qT E D=true->m<=wI I ws D
def all3(I:List Int):List (List Int):=[]::((I.map fun a=>[a])++((I.flatMap fun a=>I.map fun b=>[a,b])++I.flatMap fun a=>I.flatMap fun b=>I.map fun c=>[a,b,c]))
def all3_mem{I x:List Int}(h:∀a∈x,a∈I)(hl:x.length<=3):x∈all3 I:=by
 unfold all3
 match x,hl with
 | [],_=>simp
 | [a],_=>exact uO _ (xK _ (List.mem_map.2 ⟨a,h a ζ,rfl⟩))
 | [a,b],_=>exact uO _ (wF _ (xK _ (List.mem_flatMap.2 ⟨a,h a ζ,List.mem_map.2 ⟨b,h b ζ,rfl⟩⟩)))
 | [a,b,c],_=>exact uO _ (wF _ (wF _ (List.mem_flatMap.2 ⟨a,h a ζ,List.mem_flatMap.2 ⟨b,h b ζ,List.mem_map.2 ⟨c,h c ζ,rfl⟩⟩⟩)))
 | _::_::_::_::_,hl=>simp at hl
def all3_len{I:List Int}(h:I.length<=8):(all3 I).length<=585:=by
 have h2:(I.flatMap fun a=>I.map fun b=>[a,b]).length<=64:=by
  have:=gf I (f:=fun a=>I.map fun b=>[a,b]) (k:=8) fun a _=>by rw[ud];exact h
  have:=uI 8 h;omega
 have d:(I.flatMap fun a=>I.flatMap fun b=>I.map fun c=>[a,b,c]).length<=512:=by
  have:=gf I (f:=fun a=>I.flatMap fun b=>I.map fun c=>[a,b,c]) (k:=64) fun a _=>by
   have:=gf I (f:=fun b=>I.map fun c=>[a,b,c]) (k:=8) fun b _=>by rw[ud];exact h
   have:=uI 8 h;omega
  have:=uI 64 h;omega
 unfold all3;rw[uX,uB,uB,ud];omega
def edges_585{t:Tb}{cs:List Cn}(hb:BdOk t cs)(h0:aX t cs=0):(bI (cO t cs)).length<=585:=by
 obtain⟨h1,h2,d⟩:=ec h0;have g:=tbC h1
 have j:t.rows.length<=8:=by have:=hb.rows;omega
 have f:=lY (l:=cO t cs) fun e he=>(fM g d he).1
 have hn:(bI (cO t cs)).Nodup:=f.ord.imp fun {a b} c e=>by subst e;rw[iE]at c;cases c
 have hs:∀e∈bI (cO t cs),e∈all3 (ao t.rows):=fun e he=>by
  obtain⟨_,_,h,i⟩:=fM g d ((f.mem e).1 he).1;exact all3_mem i h
 have:=hn.length_le_of_subset hs;have:=all3_len (I:=ao t.rows) (by rw[bg];exact j);omega
def inW(t:Tb)(w:List Int):List Int:=if w=[] then tg t.rows.length 1 else w
def fC{t:Tb}{w:List Int}(h:w=[]\/w.length=t.rows.length):(inW t w).length=t.rows.length:=by
 unfold inW;split
 .simp
 .rename_i h0
  rcases h with h | h
  .exact absurd h h0
  .exact h
def inW_rng{t:Tb}{w:List Int}(h:∀x∈w,1<=x/\x<=1000000):∀x∈inW t w,1<=x/\x<=1000000:=fun x hx=>by
 unfold inW at hx;split at hx
 .obtain⟨_,rfl⟩:=List.mem_replicate.1 hx;omega
 .exact h x hx
def inE(t:Tb)(cs:List Cn):List (List Nat):=(bI (cO t cs)).map (ixE (ao t.rows))
def dT(I:List Int)(T:Nat->Bool):List Int:=((tr I.length).filter T).map fun v=>I.getD v 0
def tD(I D:List Int):Nat->Bool:=fun v=>cY D (I.getD v 0)
def lS{I:List Int}{v:Nat}(h:v<I.length):I.getD v 0=I[v]:=by simp[wU,h]
def dT_mem{I:List Int}{T:Nat->Bool}{a:Int} : a∈dT I T↔∃(v:Nat) (h:v<I.length),T v=true/\I[v]=a:=by
 unfold dT;rw[wc];constructor
 .rintro⟨v,hv,rfl⟩;obtain⟨h1,h2⟩:=List.mem_filter.1 hv;have b:=List.mem_range.1 h1;exact⟨v,b,h2,(lS b).symm⟩
 .rintro⟨v,h,h2,rfl⟩;exact⟨v,List.mem_filter.2 ⟨List.mem_range.2 h,h2⟩,lS h⟩
def dT_at{I:List Int}(a:I.Pairwise (· < ·)){T:Nat->Bool}{v:Nat}(h:v<I.length):cY (dT I T) I[v]=T v:=by
 rw[vH,bP,dT_mem];constructor
 .rintro⟨u,hu,h1,h2⟩;have hp:=List.pairwise_iff_getElem.1 a
  rcases ve u v with q | q | q
  .have:=hp u v hu h q;omega
  .rw[<-q];exact h1
  .have:=hp v u h hu q;omega
 .exact fun h1=>⟨v,h,h1,rfl⟩
def dT_asc{I:List Int}(e:I.Pairwise (· < ·))(T:Nat->Bool):(dT I T).Pairwise (· < ·):=by
 unfold dT;rw[wD];have h1:((tr I.length).filter T).Pairwise (· < ·):=List.pairwise_lt_range.filter _;refine List.Pairwise.imp_of_mem ?_ h1;intro a b ha hb c;have h2:=List.mem_range.1 (List.mem_filter.1 ha).1;have d:=List.mem_range.1 (List.mem_filter.1 hb).1;rw[lS h2,lS d];exact List.pairwise_iff_getElem.1 e a b h2 d c
theorem wI_snoc:∀(I ws:List Int) (a w:Int) (D:List Int),I.length=ws.length->wI (I++[a]) (ws++[w]) D=wI I ws D+if cY D a=true then w else 0
 | [],[],a,w,D,_=>by simp[wI]
 | b::I,v::ws,a,w,D,h=>by
  rw[ur,ur,wI,wI,wI_snoc I ws a w D (by simpa using h)];omega
 | [],_::_,_,_,_,h=>by simp at h
 | _::_,[],_,_,_,h=>by simp at h
def nE{I ws:List Int}(hl:ws.length=I.length){T:Nat->Bool}{D:List Int}(a:∀(v:Nat) (h:v<I.length),cY D I[v]=T v):dA ws T I.length=wI I ws D:=by
 have key:∀k,k<=I.length->dA ws T k=wI (I.take k) (ws.take k) D:=by
  intro k
  induction k with
  | zero=>intro _;simp[dA,wI]
  | succ k b =>
   intro hk;rw[dA,b ω,tz (show k<I.length by omega),tz (show k<ws.length by omega),wI_snoc _ _ _ _ _ χ,a k ω,lS (show k<ws.length by omega)]
 have:=key I.length (uA _)
 rwa [uV,<-hl,uV,hl]at this
def qu{I:List Int}{E:List (List Int)}(h:Hyp I E){T:Nat->Bool}{D:List Int}(d:∀(v:Nat) (h:v<I.length),cY D I[v]=T v):(∀e∈E.map (ixE I),∃v∈e,T v=true)↔qT E D=true:=by
 have ha:=(fK I).2 h.va;rw[hitB_iff];constructor
 .intro c e he;obtain⟨v,hv,ht⟩:=c (ixE I e) (List.mem_map.2 ⟨e,he,rfl⟩);obtain⟨a,hA,rfl⟩:=List.mem_map.1 hv;obtain⟨q1,b⟩:=iN ha (h.sub e he a hA);refine⟨a,hA,?_⟩;rw[<-d _ q1,bP,b]at ht;exact ht
 .intro c e he;obtain⟨x,hx,rfl⟩:=List.mem_map.1 he;obtain⟨a,hA,f⟩:=c x hx;obtain⟨q1,b⟩:=iN ha (h.sub x hx a hA);refine⟨bsP I a,List.mem_map.2 ⟨a,hA,rfl⟩,?_⟩;rw[<-d _ q1,bP,b];exact f
def tD_at{I D:List Int}(v:Nat)(h:v<I.length):cY D I[v]=tD I D v:=by unfold tD;rw[lS h]
def minI_of{I ws:List Int}{E:List (List Int)}(h:Hyp I E)(hl:ws.length=I.length){T:Nat->Bool}(a:MinOk I.length ws (E.map (ixE I)) T):MinI I ws E (dA ws T I.length) where
 at_:=⟨dT I T,(qu h fun v hv=>dT_at h.va hv).1 a.h,(nE hl fun v hv=>dT_at h.va hv).symm⟩
 le D hD:=by
  have:=a.m (tD I D) ((qu h fun v hv=>tD_at v hv).2 hD)
  rwa [nE (T:=tD I D) hl fun v hv=>tD_at v hv]at this
def min_minimal{I ws:List Int}{E:List (List Int)}(h:Hyp I E)(hl:ws.length=I.length)(hp:∀w∈ws,1<=w){T:Nat->Bool}(l:MinOk I.length ws (E.map (ixE I)) T){a:Int}(ha:a∈dT I T):qT E ((dT I T).filter fun x=>!decide (x=a))=false:=by
 rw[<-wC];intro m;have hm:=(minI_of h hl l).le _ m;rw[nE hl fun v hv=>dT_at h.va hv]at hm;obtain⟨v,hv,h1,rfl⟩:=dT_mem.1 ha
 have c:v<ws.length:=by omega
 rw[rI I ws _ v hv c,rI I ws ((dT I T).filter _) v hv c,if_pos (bP.2 ha),if_neg (by rw[bP,vR];simp)]at hm
 have k:wI (I.eraseIdx v) (ws.eraseIdx v) ((dT I T).filter fun x=>!decide (x=I[v]))=wI (I.eraseIdx v) (ws.eraseIdx v) (dT I T):=wI_congr _ _ fun b hb=>by
  rw[List.mem_eraseIdx_iff_getElem]at hb;obtain⟨j,i,f,rfl⟩:=hb;rw[vR];refine⟨fun q=>q.1,fun q=>⟨q,?_⟩⟩;have d:=List.pairwise_iff_getElem.1 h.va
  have g:I[j]≠I[v]:=fun e=>by
   rcases ve j v with q | q | q
   .have:=d j v i hv q;omega
   .exact f q
   .have:=d v j hv i q;omega
  simpa using g
 have:=hp _ (ti c);rw[k]at hm;omega
end
end Go.Proofs.YtnaokiodhoadjaaGreatDoor
section
namespace Go.Proofs.YtnaokiodhoadjaaGreatDoor
open Go Go.AM Go.Proofs.Tryz
end Go.Proofs.YtnaokiodhoadjaaGreatDoor
end
namespace Go.Proofs.YtnaokiodhoadjaaGreatDoor
section
open Go Go.AM Go.Proofs.Tryz
noncomputable def prE(t:Tb)(cs:List Cn)(w:List Int):Int:=if aX t cs=0 then(if w=[]\/w.length=t.rows.length then fN (inW t w) (inE t cs) else 6) else aX t cs
def pr_ok{t:Tb}{cs:List Cn}{w:List Int}(h:prE t cs w=0):aX t cs=0/\(w=[]\/w.length=t.rows.length)/\HsB (inW t w) (inE t cs):=by
 unfold prE at h;split at h
 .rename_i h1;split at h
  .rename_i h2;exact⟨h1,h2,ek.1 h⟩
  .cases h
 .rename_i h1;exact absurd h h1
def inE_len(t:Tb)(cs:List Cn):(inE t cs).length=(bI (cO t cs)).length:=by simp[inE]
def inE_ed{t:Tb}{cs:List Cn}(hb:BdOk t cs)(h:aX t cs=0):nC t.rows.length (inE t cs):=by
 obtain⟨_,a,_⟩:=eK hb h;intro e he;obtain⟨x,hx,rfl⟩:=List.mem_map.1 he;have:=ixE_ok a hx
 rwa [bg]at this
def pr_hsb{t:Tb}{cs:List Cn}{w:List Int}(hb:BdOk t cs)(h:aX t cs=0)(hl:w=[]\/w.length=t.rows.length)(a:∀x∈w,1<=x/\x<=1000000):HsB (inW t w) (inE t cs):=by
 have hn:=fC hl
 have b:t.rows.length<=8:=by
  obtain⟨_,h2,_⟩:=ec h;have:=hb.rows;omega
 refine⟨fun v hv=>?_,ω,?_,?_⟩
 .rw[aY _ _ hv];exact inW_rng a _ (ti hv)
 .rw[inE_len];have:=edges_585 hb h;omega
 .rw[hn];exact inE_ed hb h
def pr_zero{t:Tb}{cs:List Cn}{w:List Int}(hb:BdOk t cs)(h:aX t cs=0)(hl:w=[]\/w.length=t.rows.length)(a:∀x∈w,1<=x/\x<=1000000):prE t cs w=0:=by
 unfold prE;rw[if_pos h,if_pos hl,ek];exact pr_hsb hb h hl a
def hsb_pos{ws:List Int}{es:List (List Nat)}(h:HsB ws es):∀w∈ws,1<=w:=fun w a=>by
 obtain⟨i,hi,rfl⟩:=List.mem_iff_getElem.1 a;have:=h.w i hi;rw[aY _ _ hi]at this;exact this.1
def pr_minimal{t:Tb}{cs:List Cn}{w:List Int}(hb:BdOk t cs)(h:prE t cs w=0){T:Nat->Bool}(b:MinOk (inW t w).length (inW t w) (inE t cs) T):qT (bI (cO t cs)) (dT (ao t.rows) T)=true/\∀a∈dT (ao t.rows) T,qT (bI (cO t cs)) ((dT (ao t.rows) T).filter fun x=>!decide (x=a))=false:=by
 obtain⟨h1,h2,d⟩:=pr_ok h;obtain⟨_,c,_⟩:=eK hb h1
 have hl:(inW t w).length=(ao t.rows).length:=by rw[fC h2,bg]
 rw[hl]at b;exact⟨(qu c fun v hv=>dT_at c.va hv).1 b.h,fun a ha=>min_minimal c hl (hsb_pos d) b ha⟩
def hasJ(b:Int)(i:Nat):Bool:=IntKind.i64.wrap ↑((b.fdiv (2^min i IntKind.i64.bits) % 2^IntKind.i64.bits).toNat &&& 1 % 2^IntKind.i64.bits)== 1
theorem hasJ_def(s:Int)(a:Nat):(IntKind.i64.wrap ↑((s.fdiv (2^min a IntKind.i64.bits) % 2^IntKind.i64.bits).toNat &&& 1 % 2^IntKind.i64.bits)== 1)=hasJ s a:=rfl
def hasJ_all:∀b:Fin 512,∀i:Fin 9,hasJ (b.val:Int) i.val=b.val.testBit i.val:=of_decide_eq_true υ
def hasJ_bit{b i:Nat}(hb:b<512)(hi:i<9):hasJ (b:Int) i=b.testBit i:=hasJ_all ⟨b,hb⟩ ⟨i,hi⟩
def bnF(P:Nat->Bool):Nat->Nat
 | 0=>0
 | n+1=>bnF P n+if P n=true then 2^n else 0
theorem bnF_lt(P:Nat->Bool):∀n,bnF P n<2^n
 | 0=>by simp[bnF]
 | n+1=>by
  have:=bnF_lt P n;rw[bnF,xf];split<;>omega
theorem bnF_bit(P:Nat->Bool):∀n i,i<n->(bnF P n).testBit i=P i
 | 0,i,h=>by omega
 | n+1,i,h=>by
  have hl:=bnF_lt P n;rw[bnF];by_cases hp:P n=true
  .rw[if_pos hp,yG];by_cases e:i=n
   .subst e;rw[Nat.testBit_two_pow_add_eq,vf hl,hp];rfl
   .rw[Nat.testBit_two_pow_add_gt ω,bnF_bit P n i ω]
  .rw[if_neg hp,vk];by_cases e:i=n
   .subst e;rw[vf hl];cases h2:P i
    .rfl
    .exact absurd h2 hp
   .exact bnF_bit P n i ω
def cX(b:Int)(i:Nat):List Nat:=(tr i).filter (hasJ b)
def selN_yes{b:Int}{i:Nat}(h:hasJ b i=true):cX b (i+1)=cX b i++[i]:=by
 unfold cX;rw[ue,vK];simp[h]
def selN_no{b:Int}{i:Nat}(h:hasJ b i=false):cX b (i+1)=cX b i:=by
 unfold cX;rw[ue,vK];simp[h]
def selN_len(b:Int)(i:Nat):(cX b i).length<=i:=by
 unfold cX;exact ug (uU _ _) ζ
def selN_asc(b:Int)(i:Nat):(cX b i).Pairwise (· < ·):=List.pairwise_lt_range.filter _
def selN_lt{b:Int}{i v:Nat}(h:v∈cX b i):v<i:=List.mem_range.1 (List.mem_filter.1 h).1
def mD(es:List (List Nat))(l:List Nat):Bool:=es.all fun e=>kT e l
def hitN_iff{es:List (List Nat)}{l:List Nat} : mD es l=true↔∀e∈es,∃v∈e,v∈l:=by
 unfold mD;rw[uZ]
 refine forall_congr' fun e=>forall_congr' fun _=>?_
 unfold kT;rw[wY];exact⟨fun⟨a,h1,h2⟩=>⟨a,h1,List.contains_iff_mem.1 h2⟩,fun⟨a,h1,h2⟩=>⟨a,h1,List.contains_iff_mem.2 h2⟩⟩
def hitN_sel{n:Nat}{es:List (List Nat)}(a:nC n es){T:Nat->Bool} : mD es ((tr n).filter T)=true↔∀e∈es,∃v∈e,T v=true:=by
 rw[hitN_iff]
 refine forall_congr' fun e=>forall_congr' fun he=>?_
 constructor
 .rintro⟨v,h1,h2⟩;exact⟨v,h1,(List.mem_filter.1 h2).2⟩
 .rintro⟨v,h1,h2⟩;exact⟨v,h1,List.mem_filter.2 ⟨List.mem_range.2 ((a e he).2.2 v h1),h2⟩⟩
def lsN(ws:List Int)(es:List (List Nat)):Nat->Int
 | 0=>-1
 | b+1=>if mD es (cX (b:Int) ws.length)=true/\(lsN ws es b<0\/wl ws (cX (b:Int) ws.length)<lsN ws es b) then wl ws (cX (b:Int) ws.length) else lsN ws es b
theorem lsN_spec{ws:List Int}{es:List (List Nat)}(hb:HsB ws es):∀B:Nat,(lsN ws es B = -1/\∀b<B,mD es (cX (b:Int) ws.length)=false)\/∃b<B,mD es (cX (b:Int) ws.length)=true/\lsN ws es B=wl ws (cX (b:Int) ws.length)/\∀c<B,mD es (cX (c:Int) ws.length)=true->lsN ws es B<=wl ws (cX (c:Int) ws.length)
 | 0=>.inl ⟨rfl,fun b hb=>by omega⟩
 | B+1=>by
  have h0:∀b:Nat,0<=wl ws (cX (b:Int) ws.length):=fun b=>(wl_le hb.w _ fun v hv=>selN_lt hv).1
  rw[lsN]
  rcases lsN_spec hb B with⟨h1,h2⟩ | ⟨b,h1,h2,g,f⟩
  .by_cases a:mD es (cX (B:Int) ws.length)=true
   .rw[if_pos ⟨a,.inl ω⟩];refine .inr ⟨B,ω,a,rfl,fun c d hq=>?_⟩;by_cases e:c=B
    .rw[e];omega
    .have:=h2 c ω;rw[this]at hq;cases hq
   .rw[if_neg (fun hq=>a hq.1)];refine .inl ⟨h1,fun b hb=>?_⟩;by_cases e:b=B
    .rw[e];simpa using a
    .exact h2 b ω
  .have h:=h0 b;by_cases a:mD es (cX (B:Int) ws.length)=true/\(lsN ws es B<0\/wl ws (cX (B:Int) ws.length)<lsN ws es B)
   .rw[if_pos a];refine .inr ⟨B,ω,a.1,rfl,fun c d hq=>?_⟩;by_cases e:c=B
    .rw[e];omega
    .have:=f c ω hq;omega
   .rw[if_neg a];refine .inr ⟨b,ω,h2,g,fun c d hq=>?_⟩;by_cases e:c=B
    .subst e
     have:¬(lsN ws es c<0\/wl ws (cX (c:Int) ws.length)<lsN ws es c):=fun hr=>a ⟨hq,hr⟩
     omega
    .exact f c ω hq
def selN_all{N:Nat}(c:N<=9)(P:Nat->Bool):∃b:Nat,b<2^N/\cX (b:Int) N=(tr N).filter P:=by
 have hl:=bnF_lt P N;have a:2^N<=512:=uo ω c;refine⟨bnF P N,hl,?_⟩;unfold cX
 refine yA fun v hv=>?_
 have hv:=List.mem_range.1 hv;rw[hasJ_bit ω ω,bnF_bit P N v hv]
def lsN_min{ws:List Int}{es:List (List Nat)}(hb:HsB ws es)(hn:ws.length<=9){T:Nat->Bool}(d:MinOk ws.length ws es T):lsN ws es (2^ws.length)=dA ws T ws.length:=by
 obtain⟨b,a,hs⟩:=selN_all hn T
 have hit:mD es (cX (b:Int) ws.length)=true:=by rw[hs];exact(hitN_sel hb.ed).2 d.h
 rcases lsN_spec hb (2^ws.length) with⟨_,h2⟩ | ⟨c,h1,h2,e,f⟩
 .rw[h2 b a]at hit;cases hit
 .have a1:=f b a hit;rw[hs,<-eE]at a1;have g:=d.m (hasJ (c:Int)) ((hitN_sel hb.ed).1 h2);rw[e]at a1 ⊢;unfold cX at a1 ⊢;rw[<-eE]at a1 ⊢;omega
def butL(D:List Int)(a:Int):List Int:=D.filter fun x=>!decide (x=a)
def plE(I D:List Int):Int:=if asc D=true then(if eO D I=true then 0 else 4) else 1
def plE_ok{I D:List Int}(h:plE I D=0):D.Pairwise (· < ·)/\∀a∈D,a∈I:=by
 unfold plE at h;split at h
 .rename_i h1;split at h
  .rename_i h2;exact⟨(fK D).1 h1,gK.1 h2⟩
  .cases h
 .cases h
def plE_of{I D:List Int}(h1:D.Pairwise (· < ·))(h2:∀a∈D,a∈I):plE I D=0:=by
 unfold plE;rw[if_pos ((fK D).2 h1),if_pos (gK.2 h2)]
def minB(E:List (List Int))(D:List Int):Bool:=qT E D&&D.all fun a=>!qT E (butL D a)
def ix_mem{I:List Int}(ha:asc I=true){D:List Int}(b:∀a∈D,a∈I)(v:Nat)(hv:v<I.length):cY D I[v]=decide (v∈ixE I D):=by
 rw[vH,bP,decide_eq_true_iff];unfold ixE;rw[wc];constructor
 .exact fun h=>⟨_,h,bsP_ix ha hv⟩
 .rintro⟨a,h1,rfl⟩;obtain⟨q1,c⟩:=iN ha (b a h1);rw[c];exact h1
def ix_asc{I:List Int}(ha:asc I=true){D:List Int}(d:∀a∈D,a∈I)(hp:D.Pairwise (· < ·)):(ixE I D).Pairwise (· < ·)/\∀v∈ixE I D,v<I.length:=by
 constructor
 .unfold ixE;rw[wD];refine List.Pairwise.imp_of_mem ?_ hp;intro a b hA e c;exact bsP_lt ha (d a hA) (d b e) c
 .intro v hv;obtain⟨a,hA,rfl⟩:=List.mem_map.1 hv;exact(iN ha (d a hA)).1
def pos_hit{I:List Int}{E:List (List Int)}(h:Hyp I E){D:List Int}(b:∀a∈D,a∈I):mD (E.map (ixE I)) (ixE I D)=qT E D:=by
 have ha:=(fK I).2 h.va;rw[vH,<-qu h (T:=fun v=>decide (v∈ixE I D)) (ix_mem ha b),hitN_iff];simp only[decide_eq_true_iff]
def pos_wI{I ws:List Int}(ha:asc I=true)(hl:ws.length=I.length){D:List Int}(b:∀a∈D,a∈I)(hp:D.Pairwise (· < ·)):wl ws (ixE I D)=wI I ws D:=by
 obtain⟨h1,h2⟩:=ix_asc ha b hp;rw[<-nE hl (T:=fun v=>decide (v∈ixE I D)) (ix_mem ha b),eE,<-fB h1 h2]
noncomputable def chkS(t:Tb)(cs:List Cn)(w D:List Int)(b:Int)(l:List Nde):Bool:=if prE t cs w=0 then(if plE (ao t.rows) D=0 then(mD (inE t cs) (ixE (ao t.rows) D)&&decide (wl (inW t w) (ixE (ao t.rows) D)=b)&&pZ (inW t w) (inE t cs) b l) else false) else false
def chkS_iff{t:Tb}{cs:List Cn}{w D:List Int}{b:Int}{l:List Nde}(hb:BdOk t cs):chkS t cs w D b l=true↔prE t cs w=0/\plE (ao t.rows) D=0/\qT (bI (cO t cs)) D=true/\wI (ao t.rows) (inW t w) D=b/\pZ (inW t w) (inE t cs) b l=true:=by
 unfold chkS;split
 .rename_i h;obtain⟨h1,h2,j⟩:=pr_ok h;obtain⟨_,i,_⟩:=eK hb h1;have ha:=(fK _).2 i.va
  have hl:(inW t w).length=(ao t.rows).length:=by rw[fC h2,bg]
  split
  .rename_i d;obtain⟨q1,g⟩:=plE_ok d;rw[tt,tt,decide_eq_true_iff,pos_wI ha hl g q1];unfold inE;rw[pos_hit i g];exact⟨fun⟨⟨a,b⟩,c⟩=>⟨h,d,a,b,c⟩,fun⟨_,_,a,b,c⟩=>⟨⟨a,b⟩,c⟩⟩
  .rename_i d;exact⟨fun f=>(by cases f),fun e=>absurd e.2.1 d⟩
 .rename_i h;exact⟨fun f=>(by cases f),fun e=>absurd e.1 h⟩
def nT{t:Tb}{cs:List Cn}{w:List Int}(hb:BdOk t cs)(h:prE t cs w=0):∃T,MinOk (inW t w).length (inW t w) (inE t cs) T/\fh (inW t w) (inE t cs) 20000=(tr (inW t w).length).filter T/\lsN (inW t w) (inE t cs) (2^(inW t w).length)=dA (inW t w) T (inW t w).length:=by
 obtain⟨h1,h2,b⟩:=pr_ok h
 have c:t.rows.length<=8:=by
  obtain⟨_,h2,_⟩:=ec h1;have:=hb.rows;omega
 have hn:(inW t w).length<=8:=by rw[fC h2];exact c
 obtain⟨T,a,hm⟩:=minL_ok b ω (lf:=20000) (by
  have:(2:Int)^((inW t w).length+1)<=2^9:=by exact_mod_cast uo (by omega:0<2) ω
  have d:(2:Int)^9=512:=by decide
  omega)
 exact⟨T,a,hm,lsN_min b ω a⟩
noncomputable def lstW(t:Tb)(cs:List Cn)(w:List Int):Int:=lsN (inW t w) (inE t cs) (2^(inW t w).length)
noncomputable def nW(t:Tb)(cs:List Cn)(w:List Int):List Int:=(fh (inW t w) (inE t cs) 20000).map fun v=>(ao t.rows).getD v 0
noncomputable def jt(t:Tb)(cs:List Cn)(w:List Int):Int:=wl (inW t w) (fh (inW t w) (inE t cs) 20000)
noncomputable def optV(t:Tb)(cs:List Cn)(w:List Int):Option (List Nde×Int):=iS (inW t w) (inE t cs) ((inW t w).length+1) (tg (inW t w).length 0) 20000 (jt t cs w)
noncomputable def qO(t:Tb)(cs:List Cn)(w:List Int):List Nde:=((optV t cs w).getD ([],0)).1
structure OptS (t:Tb) (cs:List Cn) (w:List Int):Prop where
 prv:∃lf,optV t cs w=some (qO t cs w,lf)/\0<=lf
 len:(qO t cs w).length<=511
 wt:jt t cs w=lstW t cs w
 rng:0<=jt t cs w/\jt t cs w<=8000000
 pl:plE (ao t.rows) (nW t cs w)=0
 chk:chkS t cs w (nW t cs w) (jt t cs w) (qO t cs w)=true
 min:minB (bI (cO t cs)) (nW t cs w)=true
def opt_ok{t:Tb}{cs:List Cn}{w:List Int}(hb:BdOk t cs)(h:prE t cs w=0):OptS t cs w:=by
 obtain⟨h1,h2,k⟩:=pr_ok h;obtain⟨_,m,_⟩:=eK hb h1
 have q:t.rows.length<=8:=by
  obtain⟨_,h2,_⟩:=ec h1;have:=hb.rows;omega
 have hn:(inW t w).length<=8:=by rw[fC h2];exact q
 have hl:(inW t w).length=(ao t.rows).length:=by rw[fC h2,bg]
 have p:(2:Int)^((inW t w).length+1)<=512:=by
  have h1:(2:Nat)^((inW t w).length+1)<=512:=ug (uo ω (show _<=9 by omega)) (by decide);have h2:((2^((inW t w).length+1):Nat):Int)<=(512:Nat):=Int.ofNat_le.2 h1
  rwa [Int.natCast_pow]at h2
 obtain⟨T,l,hm,j⟩:=nT hb h;obtain⟨P,g,o,n,i⟩:=pA k (lf:=20000) ω l
 have b:jt t cs w=dA (inW t w) T (inW t w).length:=by unfold jt;rw[hm,eE]
 have hV:optV t cs w=some P:=by unfold optV;rw[b];exact g
 have f:qO t cs w=P.1:=by unfold qO;rw[hV];rfl
 have e:nW t cs w=dT (ao t.rows) T:=by unfold nW;rw[hm,hl];rfl
 obtain⟨m1,m2⟩:=pr_minimal hb h l
 have c:plE (ao t.rows) (nW t cs w)=0:=by
  rw[e]
  refine plE_of (dT_asc m.va T) fun a ha=>?_
  obtain⟨v,hv,_,rfl⟩:=dT_mem.1 ha;exact ti hv
 have d:=(wl_le k.w (fh (inW t w) (inE t cs) 20000) fun v hv=>by
  rw[hm]at hv;exact List.mem_range.1 (List.mem_filter.1 hv).1)
 have r:(fh (inW t w) (inE t cs) 20000).length<=8:=by
  rw[hm];exact ug (uU _ _) (by rw[xb];exact hn)
 refine⟨⟨P.2,by rw[hV,f],ω⟩,by rw[f];omega,by rw[b];unfold lstW;rw[j],⟨d.1,?_⟩,c,(chkS_iff hb).2 ⟨h,c,by rw[e];exact m1,?_,by rw[f,b];exact i⟩,?_⟩
 .have h2:=d.2;unfold jt;omega
 .rw[e,b,hl];exact(nE hl fun v hv=>dT_at m.va hv).symm
 .unfold minB;rw[e,m1,uF,uZ];intro a ha;rw[uj];exact m2 a ha
theorem wl_ones{n:Nat} : ∀l:List Nat,(∀v∈l,v<n)->wl (tg n 1) l=l.length
 | [],_=>rfl
 | v::l,h=>by
  have hv:=h v (uN ..);rw[wl,wl_ones l fun u hu=>h u (uO _ hu),aY _ _ (by simpa using hv),List.getElem_replicate,uX];omega
def opt_ones{t:Tb}{cs:List Cn}(hb:BdOk t cs)(h:prE t cs []=0):((nW t cs []).length:Int)=lstW t cs []:=by
 obtain⟨T,a,hm,_⟩:=nT hb h;rw[<-(opt_ok hb h).wt];unfold nW jt;rw[ud]
 have hW:inW t []=tg t.rows.length 1:=by unfold inW;rw[if_pos rfl]
 have hv:∀v∈fh (inW t []) (inE t cs) 20000,v<t.rows.length:=fun v hv=>by
  rw[hm]at hv;have:=List.mem_range.1 (List.mem_filter.1 hv).1
  rwa [hW,xB]at this
 rw[hW]at hv ⊢;exact(wl_ones _ hv).symm
def fnd(rs:List Rw)(id:Int)(i:Nat):Nat×Bool:=if h:i<rs.length then(if rs[i].id=id then(i,true) else fnd rs id (i+1)) else(0,false)
termination_by rs.length-i
def find03(t:Tb)(f g:Bool)(id:Int)(hr:t.rows.length<=1000000):aK prog 17 [aD f g t,.int .i64 id] fun r=>r = .tup [.int .i64 (fnd t.rows id 0).1,.bool (fnd t.rows id 0).2]:=by
 obtain⟨E,a⟩:=ξ (fnd t.rows id 0);rw[<-a];refine sPx func17 ?_;simp -dsimp[f17,tg,aD,LS,LR];refine aI (W_loopM 23 0x7ffff0 zMx (σ:=Nat) (fun i=>fnd t.rows id i=E) (fun i=>t.rows.length-i) (fun i=>[(6,.int .i64 i)]) (fun _=>[B.cells [.str t.name,.lst 1 f (t.attrs.map V.str),.lst 2 g (t.rows.map aF)]]) 0 a.symm ζ ζ ζ ?_);intro i hx N Q c b;by_cases hb:i<t.rows.length
 .rw[fnd,dif_pos hb]at hx;by_cases hq:t.rows[i].id=id
  .rw[if_pos hq]at hx;subst hx;refine wx ?_;simp -dsimp[hb,aF,LV,hq];apply b;simp -dsimp
  .rw[if_neg hq]at hx;refine wx ?_;simp -dsimp[hb,aF,LV,hq];simp -dsimp[aE i ω];refine c (i+1) _ _ hx ω ζ ⟨[],ζ⟩ ζ ζ
 .rw[fnd,dif_neg hb]at hx;subst hx;refine wx ?_;simp -dsimp[hb];apply b;simp -dsimp
def fnd_at{rs:List Rw}{i:Nat}(h:i<rs.length)(hp:rs.Pairwise fun a b=>a.id<b.id)(d:Nat):∀j,j+d=i->fnd rs rs[i].id j=(i,true):=by
 induction d with
 | zero =>
  intro j e
  obtain rfl:j=i:=by omega
  rw[fnd,dif_pos h,if_pos rfl]
 | succ d c =>
  intro j e;rw[fnd,dif_pos ω,if_neg]
  .exact c (j+1) ω
  .have:=List.pairwise_iff_getElem.1 hp j i ω h ω;omega
def fnd_no{rs:List Rw}{id:Int}(h:∀r∈rs,¬r.id=id)(i:Nat):fnd rs id i=(0,false):=by
 fun_induction fnd rs id i with
 | case1 i hi he=>exact absurd he (h _ (ti hi))
 | case2 i hi he a=>exact a
 | case3 i hi=>rfl
def fnd_bs{t:Tb}(g:TbC t)(id:Int):fnd t.rows id 0=if cY (ao t.rows) id=true then(bsP (ao t.rows) id,true) else(0,false):=by
 have ha:asc (ao t.rows)=true:=(fK _).2 (ids_asc g);split
 .rename_i h;obtain⟨r,hr,rfl⟩:=List.mem_map.1 (bP.1 h);obtain⟨i,hi,rfl⟩:=List.mem_iff_getElem.1 hr;rw[fnd_at hi g.ids i 0 ω]
  have a:i<(ao t.rows).length:=by rw[bg];exact hi
  have h1:=bsP_ix ha a
  have h2:(ao t.rows)[i]=t.rows[i].id:=by simp[ao]
  rw[h2]at h1;rw[h1]
 .rename_i h;refine fnd_no (fun r hr e=>h (bP.2 (List.mem_map.2 ⟨r,hr,e⟩))) 0
def ixE_succ{I D:List Int}{i:Nat}(h:i<D.length):ixE I (D.take (i+1))=ixE I (D.take i)++[bsP I D[i]]:=by
 unfold ixE;rw[tz h,uu];rfl
def qo(I D:List Int):(ixE I D).length=D.length:=by simp[ixE]
def nat_rb(n e:Nat)(l:List Nat)(fz:Bool):rbB n (.buf e 1 (l.map eN) fz):=fun x hx=>by
 obtain⟨y,_,rfl⟩:=List.mem_map.1 hx;intro c a;simp only[eN,V.cells,tw,tq,or_false]at a;subst a;simp[rb1]
def hs_rb(n:Nat)(f g:Bool)(ws:List Int)(es:List (List Nat)):rbB n (B.cells [.lst 1 f (ws.map aG),.lst 1 g (es.map (Ln false))]):=fun c a=>by
 simp only[tw,tq,or_false]at a
 rcases a with rfl | rfl<;>simp[rb]
def pv(es:List (List Nat))(l:List Nat)(i:Nat):Bool:=if h:i<es.length then(if kT es[i] l=true then pv es l (i+1) else false) else true
termination_by es.length-i
def hitNf_drop(es:List (List Nat))(l:List Nat)(i:Nat):pv es l i=(es.drop i).all fun e=>kT e l:=by
 fun_induction pv es l i with
 | case1 i h h0 a=>rw[th h,vE,h0,a];rfl
 | case2 i h h0=>rw[th h,vE];simp[h0]
 | case3 i h=>rw[tj ω];rfl
def hits39(ws:List Int)(es:List (List Nat))(l:List Nat)(f g fl:Bool)(n:es.length<=1000000)(he:∀e∈es,e.length<=1000000)(hl:l.length<=1000000):aK prog 23 [aV f g ws es,Ln fl l] fun r=>r = .bool (mD es l):=by
 have m:mD es l=pv es l 0:=by rw[hitNf_drop,uG];rfl
 rw[m];obtain⟨X,j⟩:=ξ (pv es l 0);rw[<-j];refine sPx func23 ?_;simp -dsimp[f23,tg,aV,L1,LLn,Ln];refine aI (W_loopM 21 0x1ffff0 zMx (σ:=Nat) (fun i=>pv es l i=X) (fun i=>es.length-i) (fun i=>[(5,.int .i64 i)]) (fun _=>[B.cells [.lst 1 f (ws.map aG),.lst 1 g (es.map (Ln false))]]) 0 j.symm ζ ζ ζ ?_);intro i hx N Q k h
 have d:∀bl∈[B.cells [.lst 1 f (ws.map aG),.lst 1 g (es.map (Ln false))]],rbB 1 bl:=fun bl c=>by
  simp only[tw,tq,or_false]at c;subst c;exact hs_rb _ _ _ _ _
 by_cases hb:i<es.length
 .rw[pv,dif_pos hb]at hx;have b:=meets39 es[i] l false fl (he _ (ti hb)) hl;obtain⟨e,a⟩:=ξ (es[i]);rw[<-a]at hx b;simp only[Ln]at b
  cases hm:kT e l with
  | true =>
   rw[hm]at b hx;rw[if_pos rfl]at hx;refine wx ?_;simp -dsimp[hb,a.symm,Ln];refine(bQ b (by simp[eN])).mono ?_;rintro r H' ⟨rfl,rfl⟩;simp -dsimp[aE i ω];refine k (i+1) _ _ hx ω ζ ⟨[],ζ⟩ ζ d
  | false =>
   rw[hm]at b hx;rw[if_neg ζ]at hx;subst hx;refine wx ?_;simp -dsimp[hb,a.symm,Ln];refine(bQ b (by simp[eN])).mono ?_;rintro r H' ⟨rfl,rfl⟩;simp -dsimp;apply h;simp -dsimp
 .rw[pv,dif_neg hb]at hx;subst hx;refine wx ?_;simp -dsimp[hb];apply h;simp -dsimp
def subset39(b n:Nat)(hn:n<=9)(hb:b<512):aK prog 21 [.int .i64 (b:Int),.int .i64 (n:Int)] fun r=>r=Ln false (cX b n):=by
 refine sPx func21 ?_;simp -dsimp[f21,tg];refine aI (bh 3 1 [5] ζ (W_loopM 21 0x1fffe0 zMx (σ:=Nat) (fun i=>i<=n) (fun i=>n-i) (fun i=>[(6,.int .i64 i),(5,.buf 0 0 (cX b i).length (cX b i).length)]) (fun i=>[B.buf 3 1 ((cX b i).map eN) false]) 0 ω (by simp[cX]) (by simp[cX]) ζ ?_));intro i hi N Q g h;have hl:=selN_len b i
 have e:∀l:List Nat,∀bl∈[B.buf 3 1 (l.map eN) false],rbB 1 bl:=fun l bl d=>by
  simp only[tw,tq,or_false]at d;subst d;exact nat_rb _ _ _ _
 by_cases c:i<n
 .cases f:hasJ (b:Int) i with
  | true =>
   have hs:=selN_yes f;obtain⟨l,a⟩:=ξ (cX b i);rw[<-a]at hs hl ⊢;refine wx ?_;simp -dsimp[c,hasJ_def,f,jx l.length ω,bA l.length ω,aE i ω];refine g (i+1) _ _ ω ω (by simp[hs]) ⟨[],by simp[hs,eN]⟩ ζ (e _)
  | false =>
   have hs:=selN_no f;obtain⟨l,a⟩:=ξ (cX b i);rw[<-a]at hs hl ⊢;refine wx ?_;simp -dsimp[c,hasJ_def,f,aE i ω];refine g (i+1) _ _ ω ω (by simp[hs]) ⟨[],by simp[hs,eN]⟩ ζ (e _)
 .obtain rfl:i=n:=by omega
  refine wx ?_;simp -dsimp[c];apply h;simp -dsimp;exact dr rfl ζ (by simp[eN])
def weight39{ws:List Int}{es:List (List Nat)}(hb:HsB ws es)(f g fl:Bool)(l:List Nat)(hs:l.Pairwise (· < ·))(hn:∀v∈l,v<ws.length):aK prog 22 [aV f g ws es,Ln fl l] fun r=>r = .tup [.int .i64 (wl ws l),.int .i64 0]:=by
 have o:∀e∈es,e.length<=1000000:=fun e he=>by have:=hb.ed.len e he;have:=hb.n;omega
 have cv:=valid39N ws es f g o;rw[ek.2 hb]at cv;have E:=hb.n
 have D:l.length<=200:=by
  have hnd:l.Nodup:=hs.imp (fun h=>by omega);have:=hnd.length_le_of_subset (l₂:=tr ws.length) (fun v hv=>List.mem_range.2 (hn v hv));simp at this;omega
 simp only[aV,L1,LLn]at cv;refine sPx func22 ?_;simp -dsimp[f22,tg,aV,L1,LLn,Ln];refine cPx cv ?_;simp -dsimp[L1,LLn,Ln];refine aI (W_loopM 55 0x7fffffffffc1b0 zMx (σ:=Nat) (fun i=>i<=l.length) (fun i=>l.length-i) (fun i=>[(8,.int .i64 i),(7,.int .i64 (wl ws (l.take i)))]) (fun _=>[B.cells [.lst 1 f (ws.map aG),.lst 1 g (es.map (Ln false))]]) 0 ω (by simp[wl]) ζ ζ ?_);intro i hi N Q z A;by_cases a:i<l.length
 .have b:=hn l[i] (ti a);have hnd:l.Nodup:=hs.imp (fun h=>by omega);have j:=(na hnd a).1
  have c:wl ws (l.take (i+1))=wl ws (l.take i)+ws.getD l[i] 0:=by rw[tz a,lA];simp[wl]
  have t:=wl_le hb.w (l.take i) (fun v hv=>hn v (uh hv))
  have C:(l.take i).length<=200:=by rw[vQ];omega
  obtain⟨v,hv⟩:=ξ (l[i]);rw[<-hv]at b j c;have d:=hv.symm
  have p:=fun fl=>has39 (l.take i) v fl ω
  rw[show(l.take i).contains v=false from by rw[<-wC,wE];exact j]at p;simp only[Ln,wM]at p;have k:=(aY ws 0 b).symm;have u:=hb.w v b;obtain⟨w,F⟩:=ξ (ws.getD v 0);rw[<-F]at k u c;obtain⟨s,m⟩:=ξ (wl ws (l.take i));rw[<-m]at c t;have q:IntKind.i64.wrap (s+w)=s+w:=wrap64 ω ω;rw[<-m];refine wx ?_;simp -dsimp[a,d,eN,b,(ω:¬(v:Int)<0),(ω:¬(ws.length:Int)<=v),(ω:¬ws.length<=v),(ω:i<=l.length),L1,LLn,Ln];refine sTx ?_;refine oM _ (bQ (p _) (by simp;intro x hx;obtain⟨y,_,rfl⟩:=List.mem_map.1 (uh hx);exact eN_pure y)) ?_;simp -dsimp[a,d,eN,b,k,aG,q,L1,LLn,Ln];refine sTx ?_;simp -dsimp[aE i ω,L1,LLn,Ln];refine z (i+1) _ _ ω ω (by simp[c]) ⟨[],rfl⟩ ζ ζ
 .obtain rfl:i=l.length:=by omega
  rw[uV];refine wx ?_;simp -dsimp[a,L1,LLn,Ln];apply A;simp -dsimp[L1,LLn,Ln]
def least39{ws:List Int}{es:List (List Nat)}(hb:HsB ws es)(hn:ws.length<=9)(f g:Bool):aK prog 9 [aV f g ws es] fun r=>r = .int .i64 (lsN ws es (2^ws.length)):=by
 obtain⟨n,h⟩:=ξ ws.length;have a:=h.symm;rw[<-h]at hn ⊢
 have y:2^n<=512:=by have:=uo (n:=2) ω hn;simpa using this
 have l:(2:Int)^n=((2^n:Nat):Int):=by push_cast;rfl
 have c:IntKind.i64.wrap (2^min n IntKind.i64.bits)=((2^n:Nat):Int):=by
  rw[show min n IntKind.i64.bits=n by simp[IntKind.bits];omega,l];exact bA _ ω
 obtain⟨M,A⟩:=ξ (2^n);rw[<-A]at c y ⊢
 have t:∀e∈es,e.length<=1000000:=fun e he=>by have:=hb.ed.len e he;have:=hb.n;omega
 have F:=hb.ne
 have i:∀bl∈[B.cells [.lst 1 f (ws.map aG),.lst 1 g (es.map (Ln false))]],rbB 1 bl:=fun bl p=>by
  simp only[tw,tq,or_false]at p;subst p;exact hs_rb _ _ _ _ _
 refine sPx func9 ?_;simp -dsimp[f9,tg,aV,L1,LLn];refine aI (W_loopM 40 0xfffffffff8 zMx (σ:=Nat) (fun b=>b<=M) (fun b=>M-b) (fun b=>[(4,.int .i64 b),(3,.int .i64 (lsN ws es b))]) (fun _=>[B.cells [.lst 1 f (ws.map aG),.lst 1 g (es.map (Ln false))]]) 0 ω (by simp[lsN]) ζ ζ ?_);intro b E N Q s z;by_cases d:b<M
 .have m:=subset39 b n hn ω;have u:=selN_len b n;have j:=weight39 hb f g false (cX b n) (selN_asc _ _) (fun v hv=>by rw[<-h];exact selN_lt hv);have k:=hits39 ws es (cX b n) f g false ω t ω
  have hs:lsN ws es (b+1)=if mD es (cX b n)=true/\(lsN ws es b<0\/wl ws (cX b n)<lsN ws es b) then wl ws (cX b n) else lsN ws es b:=by rw[lsN,<-h]
  obtain⟨L,hL⟩:=ξ (cX b n);rw[<-hL]at m j k hs u;obtain⟨w,G⟩:=ξ (wl ws L);obtain⟨q,hq⟩:=ξ (mD es L);obtain⟨o,ho⟩:=ξ (lsN ws es b);rw[<-G]at j hs;rw[<-hq]at k hs;rw[<-ho]at hs ⊢;simp only[aV,L1,LLn,Ln]at m j k
  have C:∀x∈L.map eN,AM.Pure x:=by simp[eN]
  cases q with
  | false =>
   rw[if_neg ζ]at hs;refine wx ?_;simp -dsimp[a,c,(ω:(b:Int)<M),d];refine cPx m ?_;simp -dsimp;refine(bQ j (by simp[eN])).mono ?_;rintro r H' ⟨rfl,rfl⟩;simp -dsimp;refine(bQ k (by simp[eN])).mono ?_;rintro r H' ⟨rfl,rfl⟩;simp -dsimp[aE b ω];refine s (b+1) _ _ ω ω (by simp[hs]) ⟨[],rfl⟩ ζ i
  | true =>
   by_cases h1:o<0
   .rw[if_pos ⟨rfl,.inl h1⟩]at hs;refine wx ?_;simp -dsimp[a,c,(ω:(b:Int)<M),d];refine cPx m ?_;simp -dsimp;refine(bQ j (by simp[eN])).mono ?_;rintro r H' ⟨rfl,rfl⟩;simp -dsimp;refine(bQ k (by simp[eN])).mono ?_;rintro r H' ⟨rfl,rfl⟩;simp -dsimp[h1,aE b ω];refine s (b+1) _ _ ω ω (by simp[hs]) ⟨[],rfl⟩ ζ i
   .by_cases h2:w<o
    .rw[if_pos ⟨rfl,.inr h2⟩]at hs;refine wx ?_;simp -dsimp[a,c,(ω:(b:Int)<M),d];refine cPx m ?_;simp -dsimp;refine(bQ j (by simp[eN])).mono ?_;rintro r H' ⟨rfl,rfl⟩;simp -dsimp;refine(bQ k (by simp[eN])).mono ?_;rintro r H' ⟨rfl,rfl⟩;simp -dsimp[h1,h2,aE b ω];refine s (b+1) _ _ ω ω (by simp[hs]) ⟨[],rfl⟩ ζ i
    .rw[if_neg (fun D=>D.2.elim h1 h2)]at hs;refine wx ?_;simp -dsimp[a,c,(ω:(b:Int)<M),d];refine cPx m ?_;simp -dsimp;refine(bQ j (by simp[eN])).mono ?_;rintro r H' ⟨rfl,rfl⟩;simp -dsimp;refine(bQ k (by simp[eN])).mono ?_;rintro r H' ⟨rfl,rfl⟩;simp -dsimp[h1,h2,aE b ω];refine s (b+1) _ _ ω ω (by simp[hs]) ⟨[],rfl⟩ ζ i
 .obtain rfl:M=b:=by omega
  refine wx ?_;simp -dsimp[a,c,(ω:¬(M:Int)<M)];apply z;simp -dsimp
end
end Go.Proofs.YtnaokiodhoadjaaGreatDoor
section
namespace Go.Proofs.YtnaokiodhoadjaaGreatDoor
open Go Go.AM Go.Proofs.Tryz
end Go.Proofs.YtnaokiodhoadjaaGreatDoor
end
namespace Go.Proofs.YtnaokiodhoadjaaGreatDoor
section
open Go Go.AM Go.Proofs.Tryz
section
section
variable {H:List B} {k0:Nat}
structure DfI (q:Int->Bool) (xs ys:List Int) (i j:Nat):Prop where
 lt:i<j
 len:ys.length=xs.length
 tk:ys.take i=(xs.take j).filter q
 il:i=((xs.take j).filter q).length
 hi:∀k,j<=k->ys.getD k 0=xs.getD k 0
end
end
end
end Go.Proofs.YtnaokiodhoadjaaGreatDoor
