/- JB32: texts H20, H22, H23, H21, H24, H25, joined and shortened by pack6.py. -/
import Derived.Test.YtnaokiodhoadjaaGreatDoorJB31
set_option linter.all false
set_option maxRecDepth 100000
set_option maxHeartbeats 64000000
open List renaming replicate→tg,range→tr,nil_append→uL,length_cons→uX,cons_append→ur,length_nil→vm,foldl_cons→vy,getD→wU,filter_nil→wn,take_zero→xO
namespace Go.Proofs.YtnaokiodhoadjaaGreatDoor
section
open Go Go.AM Go.Proofs.Tryz
section
def rL{a:Type}(L:Nat->a)(v:Nat)(l:a):Nat->a:=fun u=>if u=v then l else L u
def atR(n:Nat)(Lh:Nat->Nat):List V:=(tr n).map fun v=>.buf (v+4) 0 (Lh v) (Lh v)
def GH(C0:B)(E n:Nat)(rem:List Int)(Lh:Nat->Nat)(L:Nat->List Nat)(tl:List B):List B :=
 C0::.buf 3 1 (inL rem) false::.cells [.buf 1 0 E E]::.buf 42 1 (atR n Lh) false::((tr n).map (fun v=>.buf 3 1 (nuL (L v)) false)++tl)
section
variable {C0:B} {E n:Nat} {rem:List Int} {Lh:Nat->Nat} {L:Nat->List Nat} {tl:List B}
theorem GH_0:(GH C0 E n rem Lh L tl)[0]?=some C0:=rfl
theorem GH_1:(GH C0 E n rem Lh L tl)[1]?=some (.buf 3 1 (inL rem) false):=rfl
theorem GH_2:(GH C0 E n rem Lh L tl)[2]?=some (.cells [.buf 1 0 E E]):=rfl
theorem GH_3:(GH C0 E n rem Lh L tl)[3]?=some (.buf 42 1 (atR n Lh) false):=rfl
def GH_v{v:Nat}(h:v<n):(GH C0 E n rem Lh L tl)[v+4]?=some (.buf 3 1 (nuL (L v)) false):=by
 show((tr n).map (fun v=>B.buf 3 1 (nuL (L v)) false)++tl)[v]?=_;rw[tu (by simpa using h)];simp[h]
def GH_tl(i:Nat):(GH C0 E n rem Lh L tl)[n+4+i]?=tl[i]?:=by
 rw[(ω:n+4+i=n+i+4)];show((tr n).map (fun v=>B.buf 3 1 (nuL (L v)) false)++tl)[n+i]?=_;rw[uD ζ];simp
def ee:(GH C0 E n rem Lh L tl).length=n+4+tl.length:=by
 simp[GH];omega
theorem GH_set1(rem':List Int):(GH C0 E n rem Lh L tl).set 1 (.buf 3 1 (inL rem') false)=GH C0 E n rem' Lh L tl:=rfl
theorem GH_set3(a:Nat->Nat):(GH C0 E n rem Lh L tl).set 3 (.buf 42 1 (atR n a) false)=GH C0 E n rem a L tl:=rfl
def lH{b:Type}(n v:Nat)(F a:Nat->b)(y:b)(h1:a v=y)(h2:∀u,u≠v->a u=F u):((tr n).map F).set v y=(tr n).map a:=by
 refine xh ζ (fun i c d=>?_);rw[List.getElem_set];split
 .rename_i he;subst he;simp[h1]
 .rename_i he;simp[h2 i (fun h=>he h.symm)]
def GH_setv{v:Nat}(h:v<n)(l:List Nat):(GH C0 E n rem Lh L tl).set (v+4) (.buf 3 1 (nuL l) false)=GH C0 E n rem Lh (rL L v l) tl:=by
 show C0::_::_::_::(((tr n).map (fun v=>B.buf 3 1 (nuL (L v)) false)++tl).set v (.buf 3 1 (nuL l) false))=_;rw[xc _ _ (by simpa using h),lH n v _ (fun u=>B.buf 3 1 (nuL (rL L v l u)) false) _ (by simp[rL]) (fun u hu=>by simp[rL,hu])];rfl
def atR_len:(atR n Lh).length=n:=by simp[atR]
def atR_get{v:Nat}(h:v<(atR n Lh).length):(atR n Lh)[v] = .buf (v+4) 0 (Lh v) (Lh v):=by simp[atR]
def atR_set(v m:Nat):(atR n Lh).set v (.buf (v+4) 0 m m)=atR n (rL Lh v m):=by
 unfold atR;exact lH n v _ _ _ (by simp[rL]) (fun u hu=>by simp[rL,hu])
def GH_rb(h0:rbB 1 C0)(ht:∀bl∈tl,rbB (n+4+tl.length) bl):∀bl∈GH C0 E n rem Lh L tl,rbB (GH C0 E n rem Lh L tl).length bl:=by
 rw[ee];intro bl hb;unfold GH at hb
 rcases List.mem_cons.1 hb with rfl | hb
 .exact rbBM ω h0
 rcases List.mem_cons.1 hb with rfl | hb
 .exact(rbB_buf1 (sJ _)).2 trivial
 rcases List.mem_cons.1 hb with rfl | hb
 .intro c a;simp at a;subst a;show 1<_;omega
 rcases List.mem_cons.1 hb with rfl | hb
 .intro x hx c a;obtain⟨v,hv,rfl⟩:=List.mem_map.1 hx;rw[vS]at hv;simp[V.cells]at a;subst a;show v+4<_;omega
 rcases List.mem_append.1 hb with hb | hb
 .obtain⟨v,_,rfl⟩:=List.mem_map.1 hb;exact(rbB_buf1 (eS _)).2 trivial
 .exact ht bl hb
end
def LE(es:List (List Nat))(i k v:Nat):List Nat:=(tr i).filter (fun j=>decide (v∈es.getD j []))++if v∈(es.getD i []).take k then [i] else []
def LE_succ{es:List (List Nat)}{i k:Nat}(hk:k<(es.getD i []).length)(hn:(es.getD i []).Nodup):LE es i (k+1)=rL (LE es i k) (es.getD i [])[k] (LE es i k (es.getD i [])[k]++[i]):=by
 funext u;unfold rL LE;rw[tz hk];by_cases h:u=(es.getD i [])[k]
 .rw[if_pos h,if_pos (by rw[h];exact wF _ (List.mem_singleton.2 rfl)),h]
  have:¬(es.getD i [])[k]∈(es.getD i []).take k:=by
   intro hm;obtain⟨j,b,he⟩:=List.mem_iff_getElem.1 hm;rw[List.getElem_take]at he
   have a:j<k:=by rw[vQ]at b;omega
   exact List.pairwise_iff_getElem.1 hn j k ω hk a he
  rw[if_neg this,uC]
 .rw[if_neg h]
  have:(u∈(es.getD i []).take k++[(es.getD i [])[k]])↔u∈(es.getD i []).take k:=by
   rw[vG,uQ];exact⟨fun h2=>h2.elim id (fun e=>absurd e h),.inl⟩
  simp only[this]
def LE_next(es:List (List Nat))(i:Nat):LE es (i+1) 0=LE es i (es.getD i []).length:=by
 funext u;unfold LE;rw[ue,vK,xO,if_neg ζ,uC,uV];congr 1;rw[vh,wn];by_cases h:u∈es.getD i []
 .rw[if_pos (decide_eq_true h),if_pos h]
 .rw[if_neg (by simpa using h),if_neg h]
def LE_len(es:List (List Nat))(i k v:Nat):(LE es i k v).length<=i+1:=by
 unfold LE;have:=uU (fun j=>decide (v∈es.getD j [])) (tr i);rw[uB];split<;>simp at this ⊢<;>omega
def LE_mem(es:List (List Nat))(j v:Nat):j∈LE es es.length 0 v↔j<es.length/\v∈es.getD j []:=by
 unfold LE;rw[xO,if_neg ζ,uC,vR,vS,decide_eq_true_iff]
def eo(es:List (List Nat))(i:Nat):List Int:=(tr es.length).map fun j=>if j<i then((es.getD j []).length:Int) else 0
def nO(es:List (List Nat))(i:Nat):(eo es i).length=es.length:=by simp[eo]
def remF_set{es:List (List Nat)}{i:Nat} : (eo es i).set i ((es.getD i []).length:Int)=eo es (i+1):=by
 unfold eo;refine lH _ i _ _ _ ζ (fun u hu=>?_)
 have:u<i+1↔u<i:=by omega
 simp only[this]
def remF_get{es:List (List Nat)}{j:Nat}(h:j<es.length):(eo es es.length).getD j 0=((es.getD j []).length:Int):=by
 rw[aY _ _ (by rw[nO];exact h)];simp[eo,h]
end
section
def idxFuncB(H:List B)(k:Nat)(g:V)(p:Nat->Bool)(e:List Nat)(m:Nat)(hm:m=e.length)(hk:H[k]?=some (.buf 3 1 (nuL e) false))(n:e.length<=1000000)(o:∀bl∈H,rbB H.length bl)(d:rb H.length g)
  (hp:∀v∈e,aM prog g [.int .i64 (v:Int)] H fun r H'=>r = .bool (p v)/\H'=H):ak prog 164 [.buf k 0 m m,g] H fun r H'=>r = .int .i64 (ixN p e 0)/\H'=H:=by
 subst hm;have f:k<H.length:=aB hk;have b:=bJ e;refine aH tok func164 rfl rfl ?_;refine wx ?_;simp -dsimp[f164,tg,hk,b];refine aI (W_loopM 19 0x7ff30 zMx (σ:=Nat) (fun i=>ixN p e i=ixN p e 0) (fun i=>e.length-i) (fun i=>[(8,.int .i64 i)]) (fun _=>H) 0 rfl ζ rfl ζ ?_);intro i hx N Q l j;by_cases hb:i<e.length
 .rw[ixN,dif_pos hb]at hx;have c:=hp e[i] (ti hb)
  have a:=fun h=>bm (m:=e) (x:=i) h
  rw[aY e 0 hb]at a;obtain⟨v,hv⟩:=ξ (e[i]);rw[<-hv]at a c hx;cases hq:p v
  .rw[hq]at c hx;refine wx ?_;simp -dsimp[hb,hk,b,a];refine c.mono ?_;rintro r H' ⟨rfl,rfl⟩;simp -dsimp[aE i ω];refine l (i+1) _ _ (by simpa using hx) ω ζ ⟨[],ζ⟩ (by simp[f];exact d) o
  .rw[hq]at c hx;refine wx ?_;simp -dsimp[hb,hk,b,a];refine c.mono ?_;rintro r H' ⟨rfl,rfl⟩;simp -dsimp;apply j;simp -dsimp;simpa using hx
 .rw[ixN,dif_neg hb]at hx;refine wx ?_;simp -dsimp[hb];apply j;simp -dsimp;simpa using hx
def contFuncB(H:List B)(k:Nat)(a:V)(p:Nat->Bool)(e:List Nat)(m:Nat)(hm:m=e.length)(hk:H[k]?=some (.buf 3 1 (nuL e) false))(c:e.length<=1000000)(f:∀bl∈H,rbB H.length bl)(b:rb H.length a)
  (hp:∀v∈e,aM prog a [.int .i64 (v:Int)] H fun r H'=>r = .bool (p v)/\H'=H):ak prog 103 [.buf k 0 m m,a] H fun r H'=>r = .bool (e.any p)/\H'=H:=by
 have h0:=ixN_any p e 0;rw[uG]at h0;have d:=idxFuncB H k a p e m hm hk c f b hp;refine aH tok func103 rfl rfl ?_;refine wx ?_;simp -dsimp[f103,tg];refine(show aM prog (.fn 164 []) _ H _ from by simpa[aM] using d).mono ?_;rintro r H' ⟨rfl,rfl⟩;simp -dsimp;rw[<-h0]
section
variable {C0:B} {E n:Nat} {rem:List Int} {Lh:Nat->Nat} {L:Nat->List Nat} {tl:List B}
def GH_app(X:B):GH C0 E n rem Lh L tl++[X]=GH C0 E n rem Lh L (tl++[X]):=by simp[GH]
def GH_SL(X:B)(l:List Nat):SL (GH C0 E n rem Lh L (X::tl)) (n+4) l=GH C0 E n rem Lh L (.buf 3 1 (nuL l) false::tl):=by
 show C0::_::_::_::(((tr n).map (fun v=>B.buf 3 1 (nuL (L v)) false)++X::tl).set n (.buf 3 1 (nuL l) false))=_;rw[uq _ _ ζ];simp[GH]
def GH_SL2(X Y:B)(l:List Nat):SL (GH C0 E n rem Lh L (X::Y::tl)) (n+5) l=GH C0 E n rem Lh L (X::.buf 3 1 (nuL l) false::tl):=by
 show C0::_::_::_::(((tr n).map (fun v=>B.buf 3 1 (nuL (L v)) false)++X::Y::tl).set (n+1) (.buf 3 1 (nuL l) false))=_;rw[uq _ _ ζ];simp[GH]
end
def mC(n i:Nat):List Nat:=(tr n).map fun j=>if j<i then j else 0
def ordF_len(n i:Nat):(mC n i).length=n:=by simp[mC]
def ordF_set(n i:Nat):(mC n i).set i i=mC n (i+1):=by
 unfold mC;refine lH _ i _ _ _ ζ (fun u hu=>?_)
 have:u<i+1↔u<i:=by omega
 simp only[this]
def ordF_all(n:Nat):mC n n=tr n:=by
 unfold mC;refine xh ζ (fun i h1 h2=>?_);simp at h1;simp[h1]
def ordF_zero(n:Nat):tg n (V.int .i64 0)=nuL (mC n 0):=by
 unfold nuL mC;refine xh ζ (fun i h1 h2=>by simp[eN])
end
def kep(ord out:List Nat)(p v:Nat):Bool:=decide (v∈out\/v∈ord.drop p)
structure GI (es:List (List Nat)) (ord:List Nat) (p:Nat) (rem:List Int) (out:List Nat):Prop where
 len:rem.length=es.length
 cnt:∀j<es.length,rem.getD j 0=((es.getD j []).countP (kep ord out p):Nat)
 pos:∀j<es.length,1<=rem.getD j 0
 sub:∀v∈out,v∈ord.take p
 nd:out.Nodup
def na{ord:List Nat}(hn:ord.Nodup){p:Nat}(hp:p<ord.length):ord[p]∉ord.take p/\ord[p]∉ord.drop (p+1):=by
 have h:ord=ord.take p++ord[p]::ord.drop (p+1):=by rw[<-th hp,vT]
 have a:=hn;rw[h,List.nodup_append]at a;obtain⟨_,h2,b⟩:=a;exact⟨fun hm=>b _ hm _ (uN) rfl,(List.nodup_cons.1 h2).1⟩
def GI.keep{es:List (List Nat)}{ord:List Nat}{p:Nat}{rem:List Int}{out:List Nat}(g:GI es ord p rem out)(hn:ord.Nodup)(hp:p<ord.length):GI es ord (p+1) rem (out++[ord[p]]):=by
 have hk:kep ord (out++[ord[p]]) (p+1)=kep ord out p:=by
  funext v;unfold kep;rw[th hp];simp only[vG,tw,tq,or_false,or_assoc]
 have ho:ord[p]∉out:=fun h=>(na hn hp).1 (g.sub _ h)
 refine⟨g.len,fun j c=>by rw[hk];exact g.cnt j c,g.pos,fun v hv=>?_,?_⟩
 .rw[tz hp]
  rcases List.mem_append.1 hv with h | h
  .exact xK _ (g.sub v h)
  .exact wF _ h
 .rw[List.nodup_append];refine⟨g.nd,ζ,fun a ha b hb=>?_⟩;rw[uQ]at hb;subst hb;rintro rfl;exact ho ha
theorem oP{P Q:Nat->Bool}{v:Nat}(hq:Q v=false)(a:P v=true)(h:∀u,u≠v->P u=Q u):∀e:List Nat,e.Nodup->e.countP P=e.countP Q+if v∈e then 1 else 0
 | [],_=>by simp
 | u::e,hn=>by
  obtain⟨h1,h2⟩:=List.nodup_cons.1 hn;rw[List.countP_cons,List.countP_cons,oP hq a h e h2];by_cases hu:u=v
  .subst hu;rw[if_neg h1,if_pos a,hq,if_pos uN,if_neg ζ]
  .rw[h u hu]
   have:(v∈u::e)↔v∈e:=by
    rw[tw];exact⟨fun h=>h.elim (fun e=>absurd e.symm hu) id,.inr⟩
   simp only[this];omega
theorem GI.out{es:List (List Nat)}{ord:List Nat}{p:Nat}{rem rem':List Int}{out:List Nat}{L:List Nat}(g:GI es ord p rem out)(hn:ord.Nodup)(hp:p<ord.length)(b:∀e∈es,e.Nodup)(hL:∀j,j∈L↔j<es.length/\ord[p]∈es.getD j [])
  (h1:∀j∈L,rem.getD j 0≠1) (hl:rem'.length=es.length) (hr:∀j<es.length,rem'.getD j 0=rem.getD j 0-if j∈L then 1 else 0):GI es ord (p+1) rem' out:=by
 obtain⟨n1,n2⟩:=na hn hp
 have ho:ord[p]∉out:=fun h=>n1 (g.sub _ h)
 refine⟨hl,fun j a=>?_,fun j a=>?_,fun v hv=>?_,g.nd⟩
 .have hs:=oP (P:=kep ord out p) (Q:=kep ord out (p+1)) (v:=ord[p]) (by unfold kep;exact decide_eq_false (by rintro(h | h);exact ho h;exact n2 h)) (by unfold kep;rw[th hp];exact decide_eq_true (.inr uN)) (fun u hu=>by
   unfold kep;rw[th hp]
   have:(u∈out\/u∈ord[p]::ord.drop (p+1))↔(u∈out\/u∈ord.drop (p+1)):=by
    rw[tw];exact⟨fun h=>h.elim .inl (fun h=>h.elim (fun e=>absurd e hu) .inr),fun h=>h.elim .inl (fun h=>.inr (.inr h))⟩
   simp only[this]) (es.getD j []) (b _ (ir a))
  rw[hr j a,g.cnt j a,hs];by_cases hm:j∈L
  .rw[if_pos hm,if_pos ((hL j).1 hm).2];omega
  .rw[if_neg hm,if_neg (fun h=>hm ((hL j).2 ⟨a,h⟩))];omega
 .rw[hr j a];have h2:=g.pos j a;split
  .have:=h1 j (by assumption);omega
  .omega
 .rw[tz hp];exact xK _ (g.sub v hv)
def GI.hits{es:List (List Nat)}{ord:List Nat}{p:Nat}{rem:List Int}{out:List Nat}(g:GI es ord p rem out)(hp:ord.length<=p):∀e∈es,∃v∈e,v∈out:=by
 intro e he;obtain⟨j,a,rfl⟩:=List.mem_iff_getElem.1 he;have h1:=g.cnt j a;have h2:=g.pos j a;rw[aY es [] a]at h1
 have b:0<(es[j]).countP (kep ord out p):=by omega
 obtain⟨v,hv,hk⟩:=List.countP_pos_iff.1 b;refine⟨v,hv,?_⟩;unfold kep at hk;rw[tj hp]at hk;simpa using hk
def GI.start{es:List (List Nat)}{n:Nat}{ord:List Nat}{rem:List Int}(he:nC n es)(hp:ord.Perm (tr n))(hl:rem.length=es.length)(hr:∀j<es.length,rem.getD j 0=((es.getD j []).length:Int)):GI es ord 0 rem []:=by
 refine⟨hl,fun j a=>?_,fun j a=>?_,ζ,ζ⟩
 .rw[hr j a]
  have:(es.getD j []).countP (kep ord [] 0)=(es.getD j []).length:=by
   rw[List.countP_eq_length];intro v hv;unfold kep;exact decide_eq_true (.inr (by rw[uG];exact hp.mem_iff.2 (List.mem_range.2 ((he _ (ir a)).2.2 v hv))))
  rw[this]
 .rw[hr j a];have:=(he _ (ir a)).1;have:0<(es.getD j []).length:=List.length_pos_iff.2 this;omega
def sort_ok{n:Nat}{es:List (List Nat)}{ord:List Nat}{p:Nat}{rem:List Int}{out:List Nat}(g:GI es ord p rem out)(hp:ord.length<=p)(ho:∀v∈ord,v<n):(isF ltN (out.length-1) 1 out).Pairwise (· < ·)/\(∀v∈isF ltN (out.length-1) 1 out,v<n)/\∀e∈es,∃v∈e,v∈isF ltN (out.length-1) 1 out:=by
 have b:(isF ltN (out.length-1) 1 out).Perm out:=by
  by_cases h0:out.length=0
  .rw[h0];exact .refl _
  .exact kU _ _ _ _ ω
 have c:(isF ltN (out.length-1) 1 out).Pairwise (·<=·):=by
  by_cases h0:out.length=0
  .have:out=[]:=List.length_eq_zero_iff.1 h0;subst this;simp[isF]
  .refine sG _ _ _ ω ?_
   cases out with
   | nil=>simp at h0
   | cons a l=>simp
 have hnd:=b.nodup_iff.2 g.nd;refine⟨?_,fun v hv=>ho v (uh (g.sub v (b.mem_iff.1 hv))),fun e he=>?_⟩
 .exact(c.and hnd).imp (fun h=>by omega)
 .obtain⟨v,h1,h2⟩:=g.hits hp e he;exact⟨v,h1,b.mem_iff.2 h2⟩
structure GrOk (n:Nat) (es:List (List Nat)) (l:List Nat):Prop where
 s:l.Pairwise (· < ·)
 n:∀v∈l,v<n
 h:∀e∈es,∃v∈e,v∈l
def su(a:List Int)(j:Nat):List Int:=a.set j (a.getD j 0-1)
def grF(L:Nat->List Nat):List Nat->List Int->List Nat->List Nat
 | [],_,out=>out
 | v::l,rem,out=>if(L v).any (fun j=>decide (rem.getD j 0=1))=true then grF L l rem (out++[v]) else grF L l ((L v).foldl su rem) out
def sP(ws:List Int)(n:Nat):List Nat:=isF (qR fun a b=>ws.getD b 0-ws.getD a 0) (n-1) 1 (tr n)
noncomputable def greedyO(ws:List Int)(es:List (List Nat)):List Nat:=grF (LE es es.length 0) (sP ws ws.length) (eo es es.length) []
noncomputable def jT(ws:List Int)(es:List (List Nat)):List Nat:=isF ltN ((greedyO ws es).length-1) 1 (greedyO ws es)
theorem dec_len:∀(l:List Nat) (a:List Int),(l.foldl su a).length=a.length
 | [],a=>rfl
 | j::l,a=>by rw[vy,dec_len l];simp[su]
theorem dec_get:∀(l:List Nat) (b:List Int),l.Nodup->(∀j∈l,j<b.length)->∀i,(l.foldl su b).getD i 0=b.getD i 0-if i∈l then 1 else 0
 | [],b,_,_,i=>by simp
 | j::l,b,hn,hl,i=>by
  rw[List.nodup_cons]at hn;have c:=hl j ζ;rw[vy,dec_get l _ hn.2 (fun k hk=>by simp only[su,vb];exact hl k (by simp[hk])) i];by_cases a:j=i
  .subst a;rw[if_neg hn.1,if_pos ζ];unfold su;rw[ai _ c];omega
  .unfold su;rw[aj _ a]
   have:(i∈j::l)↔i∈l:=by rw[tw];exact⟨fun h=>h.elim (fun e=>absurd e.symm a) id,.inr⟩
   simp only[this]
theorem grF_gi{es:List (List Nat)}{ord:List Nat}{n:Nat}{L:Nat->List Nat}(l:ord.length=n)(c:ord.Nodup)(a:∀e∈es,e.Nodup)(b:∀v j,j∈L v↔j<es.length/\v∈es.getD j [])(g:∀v,(L v).Nodup):
  ∀(k p:Nat) (rem:List Int) (out:List Nat),p+k=n->GI es ord p rem out->out.length<=p->∃rem',GI es ord n rem' (grF L (ord.drop p) rem out)/\(grF L (ord.drop p) rem out).length<=n
 | 0,p,rem,out,hk,h,ho=>by
  obtain rfl:p=n:=by omega
  rw[tj ω];exact⟨rem,h,ho⟩
 | k+1,p,rem,out,hk,h,ho=>by
  have f:p<ord.length:=by omega
  rw[th f,grF];split
  .exact grF_gi l c a b g k (p+1) rem _ ω (h.keep c f) χ
  .rename_i m
   have d:∀j∈L ord[p],rem.getD j 0≠1:=fun j o he=>m (List.any_eq_true.2 ⟨j,o,decide_eq_true he⟩)
   refine grF_gi l c a b g k (p+1) _ _ ω (GI.out (rem':=(L ord[p]).foldl su rem) (L:=L ord[p]) h c f a (b ord[p]) d (by rw[dec_len,h.len]) (fun j o=>?_)) ω;exact dec_get _ _ (g _) (fun i hi=>by rw[h.len];exact((b _ i).1 hi).1) j
def sO{ws:List Int}{es:List (List Nat)}(hb:HsB ws es)(hn:ws.length<=12):GrOk ws.length es (jT ws es):=by
 have c:=hb.ed
 have f:∀v j,j∈LE es es.length 0 v↔j<es.length/\v∈es.getD j []:=fun v j=>LE_mem es j v
 have g:∀v,(LE es es.length 0 v).Nodup:=fun v=>by
  unfold LE;rw[xO,if_neg ζ,uC];exact(yD).filter _
 have a:(sP ws ws.length).Perm (tr ws.length):=by
  unfold sP;by_cases h0:ws.length=0
  .rw[h0];exact .refl _
  .exact kU _ _ _ _ χ
 have l:(sP ws ws.length).length=ws.length:=by rw[a.length_eq];simp
 have k:(sP ws ws.length).Nodup:=a.nodup_iff.2 yD
 have i:∀v∈sP ws ws.length,v<ws.length:=fun v hv=>List.mem_range.1 (a.mem_iff.1 hv)
 have d:∀e∈es,e.Nodup:=fun e he=>(c e he).2.1.imp (fun h=>by omega)
 obtain⟨rem',m,hl⟩:=grF_gi l k d f g ws.length 0 (eo es es.length) [] ω (GI.start c a (nO es _) (fun j n=>remF_get n)) ζ;rw[uG]at m hl;have b:=sort_ok m ω i;exact⟨b.1,b.2.1,b.2.2⟩
def greedy_u{ws:List Int}{es:List (List Nat)}(hb:HsB ws es)(f g:Bool)(hn:ws.length<=12):
  aK prog 60 [aV f g ws es] fun r=>r = .tup [Ln false (jT ws es),.int .i64 0]:=by
 obtain⟨GF,dc⟩:=ξ (jT ws es);rw[<-dc]
 have cg:∀e∈es,e.length<=1000000:=fun e he=>by have:=hb.ed.len e he;omega
 have cv:=np ws es f g cg;rw[ek.2 hb]at cv;have hd:=hb.ne;obtain⟨n,ax⟩:=ξ ws.length;rw[<-ax]at hn
 have fc:tg es.length (V.int .i64 0)=inL (eo es 0):=by
  unfold inL eo;rw[xH];refine xh ζ (fun i h1 h2=>by simp[aG])
 have c3:nC n es:=ax▸hb.ed;obtain⟨C0,bz⟩:=ξ (B.cells [.lst 1 f (ws.map aG),.lst 1 g (es.map (Ln false))])
 have G:rbB 1 C0:=by
  subst bz;intro c hc;simp only[tw,tq,or_false]at hc
  rcases hc with rfl | rfl
  .exact cT (L1_pure f ws) rfl
  .exact cT (LLn_pure g es) rfl
 simp only[aV,L1,LLn]at cv;refine fo (aH tok func60 rfl rfl ?_);refine wx ?_;simp -dsimp[f60,tg,L1,LLn,Ln,aV];refine cPx cv ?_;simp -dsimp[fc,<-ax,(ω:(8:Int)*es.length<=281474976710656),(ω:(es.length:Int)<=9223372036854775807),(ω:(24:Int)*n<=281474976710656),(ω:(n:Int)<=9223372036854775807),L1,LLn,Ln,aV];refine aI (W_ownBs 3 1 n [] _ (k0:=3) (e0:=42) rfl (W_loopM 62 0x3ffffffc00000580 zMx (σ:=Nat) (fun i=>i<=es.length) (fun i=>es.length-i) (fun i=>[(34,.int .i64 i)]) (fun i=>GH C0 es.length n (eo es i) (fun v=>(LE es i 0 v).length) (LE es i 0) []) 0 ω ζ ?_ ?_ ?_))
 .rw[bz];simp[GH,atR,LE,nuL,Function.comp_def,yG];exact xh ζ (fun i h1 h2=>by simp)
 .intro i _;simp[GH]
 intro i hi N Q hN hQ;by_cases Z:i<es.length
 .obtain⟨e1,e2,e3⟩:=c3 es[i] (ti Z);have e4:=cg es[i] (ti Z);have I:es.getD i []=es[i]:=eD Z
  have hnd:(es.getD i []).Nodup:=by rw[I];exact e2.imp (fun h=>by omega)
  obtain⟨e,he⟩:=ξ (es[i]);rw[<-he]at e1 e2 e3 e4 I;have ga:=he.symm;have fa:=remF_set (es:=es) (i:=i);rw[I]at fa;have J:=qp (eo es i) i (e.length:Int);rw[fa]at J;have q0:=GH_0 (C0:=C0) (E:=es.length) (n:=n) (rem:=eo es i) (Lh:=fun v=>(LE es i 0 v).length) (L:=LE es i 0) (tl:=[]);have q1:=GH_1 (C0:=C0) (E:=es.length) (n:=n) (rem:=eo es i) (Lh:=fun v=>(LE es i 0 v).length) (L:=LE es i 0) (tl:=[]);have q2:=GH_2 (C0:=C0) (E:=es.length) (n:=n) (rem:=eo es i) (Lh:=fun v=>(LE es i 0 v).length) (L:=LE es i 0) (tl:=[]);have qs:=GH_set1 (C0:=C0) (E:=es.length) (n:=n) (rem:=eo es i) (Lh:=fun v=>(LE es i 0 v).length) (L:=LE es i 0) (tl:=[]) (eo es (i+1))
  have F:=fun h=>iH (m:=eo es i) (x:=i) h
  have U:=(iG (eo es i)).trans (nO es i);refine wx ?_;simp -dsimp[Z,ga,q1,q2,qs,J,F,U,L1,LLn,Ln,aV];refine aI (W_loopM 61 0x1fffc00000000400 zMx (σ:=Nat) (fun k=>k<=e.length) (fun k=>e.length-k) (fun k=>[(46,.int .i64 k)]) (fun k=>GH C0 es.length n (eo es (i+1)) (fun v=>(LE es i k v).length) (LE es i k) []) 0 ω ζ ζ (by intro k _;simp[GH]) ?_);intro k hk N2 Q2 cp ct;by_cases W:k<e.length
  .have s:=e3 e[k] (ti W);have bY:=LE_succ (es:=es) (i:=i) (k:=k) (by rw[I];exact W) hnd
   have gm:(es.getD i [])[k]'(by rw[I];exact W)=e[k]:=by simp only[I]
   rw[gm]at bY;obtain⟨v,hv⟩:=ξ (e[k]);rw[<-hv]at s bY;have g2:=hv.symm;have dd:=LE_len es i k v;have r3:=GH_3 (C0:=C0) (E:=es.length) (n:=n) (rem:=eo es (i+1)) (Lh:=fun v=>(LE es i k v).length) (L:=LE es i k) (tl:=[]);have rv:=GH_v (C0:=C0) (E:=es.length) (n:=n) (rem:=eo es (i+1)) (Lh:=fun v=>(LE es i k v).length) (L:=LE es i k) (tl:=[]) s;have dk:=GH_setv (C0:=C0) (E:=es.length) (n:=n) (rem:=eo es (i+1)) (Lh:=fun v=>(LE es i k v).length) (L:=LE es i k) (tl:=[]) s (LE es i k v++[i]);rw[<-bY]at dk;have fw:=GH_3 (C0:=C0) (E:=es.length) (n:=n) (rem:=eo es (i+1)) (Lh:=fun v=>(LE es i k v).length) (L:=LE es i (k+1)) (tl:=[])
   have b2:(fun u=>(LE es i (k+1) u).length)=rL (fun u=>(LE es i k u).length) v ((LE es i k v).length+1):=by
    funext u;rw[bY];unfold rL;by_cases h:u=v
    .rw[if_pos h,if_pos h];simp
    .rw[if_neg h,if_neg h]
   have g8:=GH_set3 (C0:=C0) (E:=es.length) (n:=n) (rem:=eo es (i+1)) (Lh:=fun v=>(LE es i k v).length) (L:=LE es i (k+1)) (tl:=[]) (fun u=>(LE es i (k+1) u).length)
   have ra:=fun h=>atR_get (n:=n) (Lh:=fun v=>(LE es i k v).length) (v:=v) h
   have br:=atR_len (n:=n) (Lh:=fun v=>(LE es i k v).length);have cj:=atR_set (n:=n) (Lh:=fun v=>(LE es i k v).length) v ((LE es i k v).length+1);rw[<-b2]at cj
   have ci:nuL (LE es i k v)++[.int .i64 (i:Int)]=nuL (LE es i k v++[i]):=by simp[nuL,eN]
   have b1:=bJ (LE es i k v);obtain⟨m,hm⟩:=ξ ((LE es i k v).length);rw[<-hm]at ra cj b1 dd;refine wx ?_;simp -dsimp[W,g2,eN,r3,rv,dk,fw,g8,ra,br,cj,ci,b1,s,(ω:m<=9223372036854775806),(ω:(m+1)*8<=140737488355328),aE k ω,L1,LLn,Ln,aV];refine cp (k+1) _ _ ω ω ζ ⟨[],ζ⟩ (by simp[ee]) (GH_rb G ζ)
  .obtain rfl:k=e.length:=by omega
   have eX:=LE_next es i;rw[I]at eX;refine wx ?_;simp -dsimp[W,L1,LLn,Ln,aV];apply ct;simp -dsimp[aE i ω,L1,LLn,Ln,aV];refine hN (i+1) _ _ ω ω ζ ⟨[],by simp[eX]⟩ (by simp[GH]) ?_;exact GH_rb G ζ
 .obtain rfl:i=es.length:=by omega
  clear hN hi;obtain⟨L,hL⟩:=ξ (LE es es.length 0)
  have cw:∀v j,j∈L v↔j<es.length/\v∈es.getD j []:=fun v j=>by rw[hL];exact LE_mem es j v
  have dh:∀v,(L v).length<=2001:=fun v=>by rw[hL];have:=LE_len es es.length 0 v;omega
  have g4:∀v,(L v).Nodup:=fun v=>by
   rw[hL];unfold LE;rw[xO,if_neg ζ,uC];exact(yD).filter _
  obtain⟨o,C⟩:∃r,r=eo es es.length:=⟨_,rfl⟩
  have e6:o.length=es.length:=by rw[C];exact nO es _
  have cb:∀j<es.length,o.getD j 0=((es.getD j []).length:Int):=fun j R=>by rw[C];exact remF_get R
  rw[<-hL,<-C]
  obtain⟨Lh,b2⟩:∃Lh:Nat->Nat,Lh=fun v=>(L v).length:=⟨_,rfl⟩
  have A:∀v,Lh v=(L v).length:=fun v=>by rw[b2]
  rw[<-b2]
  have q0:∀(rem:List Int) (tl:List B),(GH C0 es.length n rem Lh L tl)[0]?=some (B.cells [.lst 1 f (ws.map aG),.lst 1 g (es.map (Ln false))]):=fun rem tl=>by rw[GH_0,bz]
  have gg:∀(rem:List Int) (tl:List B) (h:0<(GH C0 es.length n rem Lh L tl).length),(GH C0 es.length n rem Lh L tl)[0]=B.cells [.lst 1 f (ws.map aG),.lst 1 g (es.map (Ln false))]:=fun rem tl h=>bz
  have c5:(GH C0 es.length n o Lh L []).length=n+4:=ee;have e5:=GH_app (C0:=C0) (E:=es.length) (n:=n) (rem:=o) (Lh:=Lh) (L:=L) (tl:=[]) (.buf 3 1 (nuL (mC n 0)) false);rw[uL]at e5
  have az:∀(tl:List (List Nat)),∀bl∈tl.map (fun l=>B.buf 3 1 (nuL l) false),rbB (n+4+(tl.map (fun l=>B.buf 3 1 (nuL l) false)).length) bl:=fun tl bl hb=>by
   obtain⟨l,_,rfl⟩:=List.mem_map.1 hb;exact(rbB_buf1 (eS l)).2 trivial
  have r4:∀(rem:List Int) (X:B) (tl:List B),(GH C0 es.length n rem Lh L (X::tl))[n+4]?=some X:=fun rem X tl=>GH_tl 0
  have eF:=(bJ (mC n 0)).trans (ordF_len n 0);refine wx ?_;simp -dsimp[Z,L1,LLn,Ln,aV];apply hQ;simp -dsimp[q0,gg,c5,r4,eF,ordF_zero n,e5,<-ax,(ω:(8:Int)*n<=281474976710656),(ω:(n:Int)<=9223372036854775807),L1,LLn,Ln,aV]
  have gH:∀(rem:List Int) (X:B) (l:List Nat) (tl:List B),(GH C0 es.length n rem Lh L (X::tl)).set (n+4) (.buf 3 1 (nuL l) false)=GH C0 es.length n rem Lh L (.buf 3 1 (nuL l) false::tl):=fun rem X l tl=>GH_SL X l
  refine aI (W_loopM 76 0xff00000000000001000 zMx (σ:=Nat) (fun i=>i<=n) (fun i=>n-i) (fun i=>[(68,.int .i64 i)]) (fun i=>GH C0 es.length n o Lh L [.buf 3 1 (nuL (mC n i)) false]) 0 ω ζ ζ (by intro i _;simp[GH]) ?_);intro i hi N2 Q2 cp ct;by_cases b6:i<n
  .have J:(nuL (mC n i)).set i (.int .i64 (i:Int))=nuL (mC n (i+1)):=(eR _ i i).trans (by rw[ordF_set]);have b1:=(bJ (mC n i)).trans (ordF_len n i)
   have g6:=fun h=>bm (m:=mC n i) (x:=i) h
   refine wx ?_;simp -dsimp[b6,r4,gH,J,b1,g6,L1,LLn,Ln,aV];simp -dsimp[aE i ω,L1,LLn,Ln,aV];refine cp (i+1) _ _ ω ω ζ ⟨[],ζ⟩ (by simp[ee]) (GH_rb G (az [_]))
  .obtain rfl:n=i:=by omega
   rw[ordF_all];refine wx ?_;simp -dsimp[b6,L1,LLn,Ln,aV];apply ct;simp -dsimp[L1,LLn,Ln,aV]
   have e7:n+4<(GH C0 es.length n o Lh L [.buf 3 1 (nuL (tr n)) false]).length:=by rw[ee];simp
   have b7:=GH_rb (C0:=C0) (E:=es.length) (n:=n) (rem:=o) (Lh:=Lh) (L:=L) G (az [tr n]);simp only[vW,wP]at b7
   have O:=sortStable_h e7 b7 (tr n) n ζ ω (.fn 102 [.ptr 0 0]) (by simp[rb,rb1,ee]) (fun a b=>ws.getD b 0-ws.getD a 0) (fun a b ha g1 l'=>by
    rw[vS]at ha g1;rw[GH_SL];have wa:=(aY ws 0 (by omega:a<ws.length)).symm;have wb:=(aY ws 0 (by omega:b<ws.length)).symm;have ba:=hb.w a ω;have bb:=hb.w b ω;obtain⟨x,hx⟩:=ξ (ws.getD a 0);obtain⟨y,hy⟩:=ξ (ws.getD b 0);rw[<-hx]at wa ba ⊢;rw[<-hy]at wb bb ⊢;have hw:IntKind.i64.wrap (y-x)=y-x:=wrap64 ω ω;have qq:=q0 o [.buf 3 1 (nuL l') false];obtain⟨HH,cE⟩:=ξ (GH C0 es.length n o Lh L [.buf 3 1 (nuL l') false]);rw[<-cE]at qq ⊢;simp only[aM,ur,uL];refine aH tok func102 rfl rfl ?_;refine wx ?_;simp -dsimp[f102,tg,qq,wa,wb,hw,aG,(ω:a<ws.length),(ω:b<ws.length),L1,LLn,Ln,aV]
    exact .inr (cG υ))
   simp only[GH_SL]at O;obtain⟨ord,a6⟩:=ξ (isF (qR fun a b=>ws.getD b 0-ws.getD a 0) (n-1) 1 (tr n))
   have D:ord.Perm (tr n):=by
    rw[a6];by_cases h0:n=0
    .subst h0;exact .refl _
    .exact kU _ _ _ _ χ
   rw[<-a6]at O;obtain⟨be,ca⟩:=ξ (grF L ord o [])
   have g3:GF=isF ltN (be.length-1) 1 be:=by
    rw[dc,ca,a6,hL,C];unfold jT greedyO sP;rw[<-ax]
   have fx:ord.length=n:=by rw[D.length_eq];simp
   have dE:ord.Nodup:=D.nodup_iff.2 yD
   have gv:∀v∈ord,v<n:=fun v hv=>List.mem_range.1 (D.mem_iff.1 hv)
   have b8:=(bJ ord).trans fx;refine bd O ?_;rintro _ _ rfl
   have ck:(GH C0 es.length n o Lh L [.buf 3 1 (nuL ord) false]).length=n+5:=by rw[ee];rfl
   have c8:∀e∈es,e.Nodup:=fun e he=>(c3 e he).2.1.imp (fun h=>by omega)
   have q2:∀(rem:List Int) (tl:List B),(GH C0 es.length n rem Lh L tl)[2]?=some (.cells [.buf 1 0 es.length es.length]):=fun rem tl=>GH_2
   have q1:∀(rem:List Int) (tl:List B),(GH C0 es.length n rem Lh L tl)[1]?=some (.buf 3 1 (inL rem) false):=fun rem tl=>GH_1
   have q3:∀(rem:List Int) (tl:List B),(GH C0 es.length n rem Lh L tl)[3]?=some (.buf 42 1 (atR n Lh) false):=fun rem tl=>GH_3
   have gb:∀(rem rem':List Int) (tl:List B),(GH C0 es.length n rem Lh L tl).set 1 (.buf 3 1 (inL rem') false)=GH C0 es.length n rem' Lh L tl:=fun rem rem' tl=>GH_set1 rem'
   have r5:∀(rem:List Int) (X Y:B),(GH C0 es.length n rem Lh L [X,Y])[n+5]?=some Y:=fun rem X Y=>GH_tl 1
   have de:∀(rem:List Int) (X Y:B) (l:List Nat),(GH C0 es.length n rem Lh L [X,Y]).set (n+5) (.buf 3 1 (nuL l) false)=GH C0 es.length n rem Lh L [X,.buf 3 1 (nuL l) false]:=fun rem X Y l=>GH_SL2 X Y l
   have fi:∀(rem:List Int) (X Y:B),(GH C0 es.length n rem Lh L [X,Y]).length=n+6:=fun rem X Y=>by rw[ee];rfl
   have H:∀(rem:List Int) (l l':List Nat),∀bl∈GH C0 es.length n rem Lh L [.buf 3 1 (nuL l) false,.buf 3 1 (nuL l') false],rbB (GH C0 es.length n rem Lh L [.buf 3 1 (nuL l) false,.buf 3 1 (nuL l') false]).length bl:=fun rem l l'=>GH_rb G (az [l,l'])
   have fb:GH C0 es.length n o Lh L [.buf 3 1 (nuL ord) false]++[B.buf 3 1 [] false]=GH C0 es.length n o Lh L [.buf 3 1 (nuL ord) false,.buf 3 1 (nuL []) false]:=GH_app _;simp -dsimp[r4,b8,L1,LLn,Ln,aV];refine aI (bh 3 1 [13] ζ (W_loopM 112 0xfffffffe4000000000000002a000 zMx (σ:=Nat×List Int×List Nat) (fun p=>p.1<=n/\GI es ord p.1 p.2.1 p.2.2/\p.2.2.length<=p.1/\(∀j<es.length,p.2.1.getD j 0<=1000000)/\grF L (ord.drop p.1) p.2.1 p.2.2=be) (fun p=>n-p.1) (fun p=>[(81,.int .i64 p.1),(13,.buf (n+5) 0 p.2.2.length p.2.2.length)]) (fun p=>GH C0 es.length n p.2.1 Lh L [.buf 3 1 (nuL ord) false,.buf 3 1 (nuL p.2.2) false]) (0,o,[]) ⟨ζ,GI.start c3 D e6 cb,ζ,fun j R=>by rw[cb j R];have:=cg _ (ir R);omega,by rw[uG,ca]⟩ (by simp[ck]) (by rw[fb]) (by intro p _;simp[ee]) ?_));rintro⟨p,rem,out⟩ ⟨hp,gi,c6,bx,t⟩ N3 Q3 cI gB;simp only at hp gi c6 bx t cI;by_cases ff:p<n
   .have a7:p<ord.length:=by omega
    have s:=gv ord[p] (ti a7);have ay:=gi.keep dE a7
    have b9:=fun rem'=>GI.out (rem':=rem') (L:=L ord[p]) gi dE a7 c8 (cw ord[p])
    have aA:=fun h=>bm (m:=ord) (x:=p) h
    rw[aY ord 0 a7]at aA;obtain⟨v,hv⟩:=ξ (ord[p]);rw[th a7,<-hv,grF]at t;rw[<-hv]at s ay b9 aA
    have df:∀j∈L v,aM prog (.fn 104 [.ptr 2 0]) [.int .i64 (j:Int)] (GH C0 es.length n rem Lh L [.buf 3 1 (nuL ord) false,.buf 3 1 (nuL out) false]) fun r H'=>r = .bool (decide (rem.getD j 0=1))/\H'=GH C0 es.length n rem Lh L [.buf 3 1 (nuL ord) false,.buf 3 1 (nuL out) false]:=fun j R=>by
     have M:=((cw v j).1 R).1;have a2:=q2 rem [.buf 3 1 (nuL ord) false,.buf 3 1 (nuL out) false];have a1:=q1 rem [.buf 3 1 (nuL ord) false,.buf 3 1 (nuL out) false];obtain⟨HH,cE⟩:=ξ (GH C0 es.length n rem Lh L [.buf 3 1 (nuL ord) false,.buf 3 1 (nuL out) false]);rw[<-cE]at a1 a2 ⊢
     have F:=fun h=>iH (m:=rem) (x:=j) h
     have U:=(iG rem).trans gi.len;obtain⟨z,hz⟩:=ξ (rem.getD j 0);rw[<-hz]at F ⊢;simp only[aM,ur,uL];by_cases hq:z=1
     .rw[decide_eq_true hq];refine aH tok func104 rfl rfl ?_;refine wx ?_;simp -dsimp[f104,tg,a1,a2,F,U,M,hq,L1,LLn,Ln,aV]
     .rw[decide_eq_false hq];refine aH tok func104 rfl rfl ?_;refine wx ?_;simp -dsimp[f104,tg,a1,a2,F,U,M,hq,L1,LLn,Ln,aV]
    have fe:=contFuncB (GH C0 es.length n rem Lh L [.buf 3 1 (nuL ord) false,.buf 3 1 (nuL out) false]) (v+4) (.fn 104 [.ptr 2 0]) (fun j=>decide (rem.getD j 0=1)) (L v) (Lh v) (A v) (GH_v s) (by have:=dh v;omega) (H rem ord out) (by simp[rb,rb1,ee]) df
    have ra:=fun h=>atR_get (n:=n) (Lh:=Lh) (v:=v) h
    have br:=atR_len (n:=n) (Lh:=Lh);have c7:=bJ out;have b3:=q3 rem [.buf 3 1 (nuL ord) false,.buf 3 1 (nuL out) false];have b4:=r4 rem (.buf 3 1 (nuL ord) false) [.buf 3 1 (nuL out) false];have b5:=r5 rem (.buf 3 1 (nuL ord) false) (.buf 3 1 (nuL out) false);have g7:=de rem (.buf 3 1 (nuL ord) false) (.buf 3 1 (nuL out) false) (out++[v])
    obtain⟨any,al⟩:=ξ ((L v).any fun j=>decide (rem.getD j 0=1))
    rw[<-al]at fe;refine wx ?_;simp -dsimp[ff,b3,b4,b8,aA,ra,br,s,L1,LLn,Ln,aV];refine bd fe ?_;rintro _ _ ⟨rfl,rfl⟩;rw[<-al]at t
    cases any with
    | true =>
     rw[if_pos rfl]at t
     have ci:nuL out++[.int .i64 (v:Int)]=nuL (out++[v]):=by simp[nuL,eN]
     simp -dsimp[b5,c7,ci,g7,aE p ω,(ω:out.length<=9223372036854775806),(ω:(out.length+1)*8<=140737488355328),L1,LLn,Ln,aV];refine cI (p+1,rem,out++[v]) _ _ ⟨θ,ay,χ,bx,t⟩ θ ζ ⟨[],ζ⟩ (by simp[ee]) (H _ _ _)
    | false =>
     rw[if_neg ζ]at t
     have cm:∀j∈L v,rem.getD j 0≠1:=fun j R he=>by
      have:=List.any_eq_false.1 al.symm j R;rw[he]at this;exact this rfl
     have ce:(nuL (L v)).length=Lh v:=(bJ (L v)).trans (A v).symm
     have bv:∀rem',(GH C0 es.length n rem' Lh L [.buf 3 1 (nuL ord) false,.buf 3 1 (nuL out) false])[v+4]?=some (.buf 3 1 (nuL (L v)) false):=fun rem'=>GH_v s
     simp -dsimp[b3,ra,br,s,bv,ce,L1,LLn,Ln,aV];refine aI (W_loopM 111 0x7ff0000000000000000000020000 zMx (σ:=Nat×List Int) (fun q=>q.1<=Lh v/\q.2.length=es.length/\(∀j<es.length,q.2.getD j 0=rem.getD j 0-if j∈(L v).take q.1 then 1 else 0)/\((L v).drop q.1).foldl su q.2=(L v).foldl su rem) (fun q=>Lh v-q.1) (fun q=>[(100,.int .i64 q.1)]) (fun q=>GH C0 es.length n q.2 Lh L [.buf 3 1 (nuL ord) false,.buf 3 1 (nuL out) false]) (0,rem) ⟨ζ,gi.len,fun j _=>by simp,by rw[uG]⟩ ζ ζ (by intro q _;simp[ee]) ?_);rintro⟨q,P⟩ ⟨hq,S,T,K⟩ N4 Q4 e9 g0;simp only at hq S T K e9;by_cases c1:q<Lh v
     .have aJ:q<(L v).length:=by rw[<-A v];exact c1
      have an:=fun h=>bm (m:=L v) (x:=q) h
      rw[aY (L v) 0 aJ]at an;have fs:(L v)[q]∈L v:=ti aJ
      have c9:(L v)[q]∉(L v).take q:=fun hm=>by
       obtain⟨a,ha,he⟩:=List.mem_iff_getElem.1 hm;rw[List.getElem_take]at he
       have g5:a<q:=by rw[vQ]at ha;omega
       exact List.pairwise_iff_getElem.1 (g4 v) a q ω aJ g5 he
      have bi:=tz aJ;obtain⟨j,R⟩:=ξ ((L v)[q]);rw[th aJ,<-R,vy]at K;unfold su at K;rw[<-R]at an fs c9 bi;have M:=((cw v j).1 fs).1;have a2:=q2 P [.buf 3 1 (nuL ord) false,.buf 3 1 (nuL out) false];have a1:=q1 P [.buf 3 1 (nuL ord) false,.buf 3 1 (nuL out) false];have e8:=gb P (P.set j (P.getD j 0-1)) [.buf 3 1 (nuL ord) false,.buf 3 1 (nuL out) false];have gT:=bv P
      have F:=fun h=>iH (m:=P) (x:=j) h
      have U:=(iG P).trans S;have J:=qp P j (P.getD j 0-1);have cB:=T j M;rw[if_neg c9]at cB;have hg:=gi.pos j M;have g9:=bx j M;obtain⟨z,hz⟩:=ξ (P.getD j 0);rw[<-hz]at F J e8 cB K;have fv:IntKind.i64.wrap (z-1)=z-1:=wrap64 ω ω;refine wx ?_;simp -dsimp[c1,gT,ce,an,a2,a1,e8,F,U,J,M,fv,aE q (by have:=dh v;have:=A v;omega),L1,LLn,Ln,aV];refine e9 (q+1,P.set j (z-1)) _ _ ⟨θ,by simp[S],fun i hi=>?_,K⟩ θ ζ ⟨[],ζ⟩ (by simp[ee];omega) (H _ _ _);simp only;rw[bi];by_cases cA:j=i
      .subst cA;rw[ai _ ω,if_pos (wF _ (List.mem_singleton.2 rfl)),cB];omega
      .rw[aj _ cA,T i hi]
       have:(i∈(L v).take q++[j])↔i∈(L v).take q:=by
        rw[vG,uQ];exact⟨fun h=>h.elim id (fun e=>absurd e.symm cA),.inl⟩
       simp only[this]
     .obtain rfl:q=Lh v:=by omega
      have bi:(L v).take (Lh v)=L v:=uY (by rw[A v];exact uA _);rw[bi]at T;rw[tj (by rw[A v];exact uA _),List.foldl_nil]at K;rw[<-K]at t;have gr:=b9 P cm S T;refine wx ?_;simp -dsimp[c1,L1,LLn,Ln,aV];apply g0;simp -dsimp[aE p ω,L1,LLn,Ln,aV];refine cI (p+1,P,out) _ _ ⟨θ,gr,θ,fun j R=>?_,t⟩ θ ζ ⟨[],ζ⟩ (by simp[ee]) (H _ _ _);have:=bx j R;simp only;rw[T j R];split<;>omega
   .obtain rfl:n=p:=by omega
    rw[tj ω]at t;have ge:out=be:=t
    have c4:n+5<(GH C0 es.length n rem Lh L [.buf 3 1 (nuL ord) false,.buf 3 1 (nuL out) false]).length:=by rw[fi];omega
    have hs:=sort_h c4 (H rem ord out) out out.length rfl ω;simp only[GH_SL2]at hs;obtain⟨a8,ad⟩:=ξ (isF ltN (out.length-1) 1 out)
    have S:out.length=a8.length:=by
     rw[ad];by_cases h0:out.length=0
     .rw[h0];exact h0.symm
     .exact(kU ltN _ _ _ ω).length_eq.symm
    have c2:a8=GF:=by rw[g3,ad,ge]
    rw[<-ad]at hs;refine wx ?_;simp -dsimp[ff,L1,LLn,Ln,aV];apply gB;simp -dsimp[L1,LLn,Ln,aV];refine bd hs ?_;rintro _ _ rfl;simp -dsimp[L1,LLn,Ln,aV];rw[<-c2];refine .tup _ _ rfl (fun i c d h1 h2=>?_)
    match i with
    | 0=>simp at h1 h2;subst h1;subst h2;exact oC (r5 rem _ _) (S.trans (bJ a8).symm) (fun x hx=>(eS a8 x hx).1)
    | 1=>simp at h1 h2;subst h1;subst h2;exact .pure _ ζ
    | i+2=>simp at h1
def wl(ws:List Int):List Nat->Int
 | []=>0
 | v::l=>ws.getD v 0+wl ws l
theorem lA(ws:List Int):∀a b:List Nat,wl ws (a++b)=wl ws a+wl ws b
 | [],b=>by simp[wl]
 | v::a,b=>by rw[ur,wl,wl,lA ws a b];omega
theorem eE(ws:List Int)(T:Nat->Bool):∀n,dA ws T n=wl ws ((tr n).filter T)
 | 0=>rfl
 | n+1=>by
  rw[dA,ue,vK,lA,eE ws T n,vh,wn];by_cases h:T n=true
  .rw[if_pos h,if_pos h];simp[wl]
  .rw[if_neg h,if_neg h];simp[wl]
theorem mQ:∀c b:List Nat,c.Pairwise (· < ·)->b.Pairwise (· < ·)->(∀x,x∈c↔x∈b)->c=b
 | [],[],_,_,_=>rfl
 | [],y::b,_,_,h=>by have:=(h y).2 uN;cases this
 | x::c,[],_,_,h=>by have:=(h x).1 uN;cases this
 | x::c,y::b,h1,h2,h=>by
  obtain⟨a1,g⟩:=List.pairwise_cons.1 h1;obtain⟨f,i⟩:=List.pairwise_cons.1 h2;have hx:=(h x).1 uN;have d:=(h y).2 uN
  have e:x=y:=by
   rcases List.mem_cons.1 hx with e | hx
   .exact e
   .rcases List.mem_cons.1 d with e | d
    .exact e.symm
    .have:=f x hx;have:=a1 y d;omega
  subst e;congr 1;refine mQ c b g i (fun z=>⟨fun hz=>?_,fun hz=>?_⟩)
  .rcases List.mem_cons.1 ((h z).1 (uO _ hz)) with e | a
   .subst e;have:=a1 z hz;omega
   .exact a
  .rcases List.mem_cons.1 ((h z).2 (uO _ hz)) with e | a
   .subst e;have:=f z hz;omega
   .exact a
def fB{n:Nat}{l:List Nat}(hs:l.Pairwise (· < ·))(hn:∀v∈l,v<n):l=(tr n).filter fun v=>decide (v∈l):=by
 refine mQ _ _ hs (List.pairwise_lt_range.filter _) (fun x=>?_);rw[vR,vS,decide_eq_true_iff];exact⟨fun h=>⟨hn x h,h⟩,fun h=>h.2⟩
theorem wl_le{ws:List Int}{n:Nat}(a:∀v<n,1<=ws.getD v 0/\ws.getD v 0<=1000000):∀l:List Nat,(∀v∈l,v<n)->0<=wl ws l/\wl ws l<=1000000*(l.length:Int)
 | [],_=>by simp[wl]
 | v::l,h=>by
  have h1:=wl_le a l (fun u hu=>h u (uO _ hu));have h2:=a v (h v uN);rw[wl,uX];omega
def index_I(e:List Nat)(v:Nat)(d:Bool)(hl:e.length<=1000000):aK prog 166 [Ln d e,.int .i64 (v:Int)] fun r=>r = .int .i64 (ixN (fun u=>decide (u=v)) e 0):=by
 refine sPx func166 ?_;simp -dsimp[f166,tg,Ln];refine aI (W_loopM 19 0x7ff30 zMx (σ:=Nat) (fun i=>ixN (fun u=>decide (u=v)) e i=ixN (fun u=>decide (u=v)) e 0) (fun i=>e.length-i) (fun i=>[(8,.int .i64 i)]) (fun _=>[]) 0 rfl ζ rfl ζ ?_);intro i hx N Q c b;by_cases hb:i<e.length
 .rw[ixN,dif_pos hb]at hx;obtain⟨u,hu⟩:=ξ (e[i]);rw[<-hu]at hx;have a:=hu.symm;by_cases hq:u=v
  .rw[if_pos (decide_eq_true hq)]at hx;refine wx ?_;simp -dsimp[hb,a,eN,hq];apply b;simp -dsimp;simpa using hx
  .rw[if_neg (by simp[hq])]at hx;refine wx ?_;simp -dsimp[hb,a,eN,(ω:¬(v:Int)=u),(ω:¬v=u),aE i ω];refine c (i+1) _ _ hx ω ζ ⟨[],rfl⟩ ζ ζ
 .rw[ixN,dif_neg hb]at hx;refine wx ?_;simp -dsimp[hb];apply b;simp -dsimp;simpa using hx
def contains_I(e:List Nat)(v:Nat)(a:Bool)(hl:e.length<=1000000):aK prog 106 [Ln a e,.int .i64 (v:Int)] fun r=>r = .bool (decide (v∈e)):=by
 have h0:=ixN_any (fun u=>decide (u=v)) e 0;rw[uG]at h0
 have h1:(e.any fun u=>decide (u=v))=decide (v∈e):=by
  rw[vH];simp
 rw[h1]at h0;have b:=index_I e v a hl;refine sPx func106 ?_;simp -dsimp[f106,tg];refine cPx b ?_;simp -dsimp;exact decide_eq_decide.1 h0
def weight_u{ws:List Int}{es:List (List Nat)}(hb:HsB ws es)(f g fl:Bool)(l:List Nat)(hs:l.Pairwise (· < ·))(hn:∀v∈l,v<ws.length):aK prog 61 [aV f g ws es,Ln fl l] fun r=>r = .tup [.int .i64 (wl ws l),.int .i64 0]:=by
 have m:∀e∈es,e.length<=1000000:=fun e he=>by have:=hb.ed.len e he;have:=hb.n;omega
 have cv:=np ws es f g m;rw[ek.2 hb]at cv;have E:=hb.n
 have D:l.length<=200:=by
  have hnd:l.Nodup:=hs.imp (fun h=>by omega);have:=hnd.length_le_of_subset (l₂:=tr ws.length) (fun v hv=>List.mem_range.2 (hn v hv));simp at this;omega
 simp only[aV,L1,LLn]at cv;refine sPx func61 ?_;simp -dsimp[f61,tg,aV,L1,LLn,Ln];refine cPx cv ?_;simp -dsimp[L1,LLn,Ln];refine aI (W_loopM 46 0x3ffffffe03b0 zMx (σ:=Nat) (fun i=>i<=l.length) (fun i=>l.length-i) (fun i=>[(17,.int .i64 i),(7,.int .i64 (wl ws (l.take i)))]) (fun _=>[B.cells [.lst 1 f (ws.map aG),.lst 1 g (es.map (Ln false))]]) 0 ω (by simp[wl]) rfl ζ ?_);intro i hi N Q z A;by_cases b:i<l.length
 .have a:=hn l[i] (ti b);have hnd:l.Nodup:=hs.imp (fun h=>by omega);have d:=(na hnd b).1
  have c:wl ws (l.take (i+1))=wl ws (l.take i)+ws.getD l[i] 0:=by rw[tz b,lA];simp[wl]
  have t:=wl_le hb.w (l.take i) (fun v hv=>hn v (uh hv))
  have C:(l.take i).length<=200:=by rw[vQ];omega
  obtain⟨v,hv⟩:=ξ (l[i]);rw[<-hv]at a d c;have o:=hv.symm
  have p:=fun fl=>contains_I (l.take i) v fl ω
  rw[decide_eq_false d]at p;simp only[Ln,wM]at p;have j:=(aY ws 0 a).symm;have u:=hb.w v a;obtain⟨w,F⟩:=ξ (ws.getD v 0);rw[<-F]at j u c;obtain⟨s,k⟩:=ξ (wl ws (l.take i));rw[<-k]at c t;have q:IntKind.i64.wrap (s+w)=s+w:=wrap64 ω ω;rw[<-k];refine wx ?_;simp -dsimp[b,o,eN,a,(ω:¬(v:Int)<0),(ω:¬(ws.length:Int)<=v),(ω:¬ws.length<=v),(ω:i<=l.length),L1,LLn,Ln];refine(bQ (p _) (by simp;intro x hx;obtain⟨y,_,rfl⟩:=List.mem_map.1 (uh hx);exact eN_pure y)).mono ?_;rintro r H' ⟨rfl,rfl⟩;simp -dsimp[a,j,aG,q,aE i ω,L1,LLn,Ln];refine z (i+1) _ _ ω ω (by simp[c]) ⟨[],rfl⟩ ζ ζ
 .obtain rfl:i=l.length:=by omega
  rw[uV];refine wx ?_;simp -dsimp[b,L1,LLn,Ln];apply A;simp -dsimp[L1,LLn,Ln]
structure MinOk (n:Nat) (ws:List Int) (es:List (List Nat)) (T:Nat->Bool):Prop where
 h:∀e∈es,∃v∈e,T v=true
 m:∀T':Nat->Bool,(∀e∈es,∃v∈e,T' v=true)->dA ws T n<=dA ws T' n
theorem ri(n:Nat)(T:Nat->Bool)(ws:List Int):∀j,phi (tg n 0) T ws j=dA ws T j
 | 0=>rfl
 | j+1=>by
  have h0:(tg n 0).getD j 0=0:=by
   simp only[wU,wL];split<;>rfl
  rw[phi,dA,ri n T ws j,h0];by_cases h:T j=true<;>simp[h]
theorem wsum_zero(n:Nat)(ws:List Int):∀j,dA ws (fun u=>decide ((tg n 0).getD u 0=1)) j=0
 | 0=>rfl
 | j+1=>by
  have h0:(tg n 0).getD j 0=0:=by
   simp only[wU,wL];split<;>rfl
  rw[dA,wsum_zero n ws j,h0];simp
def gE(n:Nat):dx (tg n 0)=n:=by
 unfold dx;rw[List.countP_replicate];simp
def min_all{ws:List Int}{es:List (List Nat)}(hb:HsB ws es){lf:Int}(c:2^(ws.length+1)-1<=lf){l:List Nat}(hl:GrOk ws.length es l):
  ∃P T,pC ws es (ws.length+1) (tg ws.length 0) lf ⟨l,wl ws l⟩ 0=some P/\lf-(2^(ws.length+1)-1)<=P.1/\MinOk ws.length ws es T/\P.2.l=(tr ws.length).filter T/\P.2.w=dA ws T ws.length:=by
 have h0:∀v,(tg ws.length 0).getD v 0=0:=fun v=>by
  simp only[wU,wL];split<;>rfl
 have g:Wok ws.length ws (tg ws.length 0):=⟨rfl,ζ,fun v hv=>(hb.w v hv).1,fun v _=>by rw[h0];omega⟩;obtain⟨f,d,m1,m2,k,m4,j⟩:=min_ok hb.ed (ws.length+1) (tg ws.length 0) lf ⟨l,wl ws l⟩ 0 g (by rw[gE];omega) (by rw[gE];exact c) (by rw[wsum_zero]);rw[gE]at m2
 have hall:∀T':Nat->Bool,(∀e∈es,∃v∈e,T' v=true)->d.w<=dA ws T' ws.length:=fun T' b=>by
  have i:Ext ws.length es (tg ws.length 0) T':=⟨fun v _ h=>by rw[h0]at h;omega,fun v _ h=>by rw[h0]at h;omega,b⟩;have:=m4 T' i;rw[ri]at this;omega
 rcases j with rfl | ⟨T,b⟩
 .refine⟨_,fun v=>decide (v∈l),m1,m2,⟨fun e he=>?_,fun T' a=>?_⟩,fB hl.s hl.n,?_⟩
  .obtain⟨v,h1,h2⟩:=hl.h e he;exact⟨v,h1,by simpa using h2⟩
  .have:=hall T' a;rw[eE,<-fB hl.s hl.n];exact this
  .rw[eE,<-fB hl.s hl.n]
 .refine⟨_,T,m1,m2,⟨b.h,fun T' a=>?_⟩,b.l,b.w⟩;have:=hall T' a;rw[b.w]at this;exact this
noncomputable def fh(ws:List Int)(es:List (List Nat))(lf:Int):List Nat:=match pC ws es (ws.length+1) (tg ws.length 0) lf ⟨jT ws es,wl ws (jT ws es)⟩ 0 with
 | some P=>P.2.l
 | none=>[]
def minL_ok{ws:List Int}{es:List (List Nat)}(hb:HsB ws es)(hn:ws.length<=12){lf:Int}(a:2^(ws.length+1)-1<=lf):∃T,MinOk ws.length ws es T/\fh ws es lf=(tr ws.length).filter T:=by
 obtain⟨P,T,m1,m2,b,m4,c⟩:=min_all hb a (sO hb hn);refine⟨T,b,?_⟩;unfold fh;rw[m1];exact m4
def PL(ws:List Int)(es:List (List Nat))(lf:Int)(r:V):Prop:=∃fl,r = .tup [.lst 1 fl ((fh ws es lf).map eN),.int .i64 (wl ws (fh ws es lf)),.int .i64 0]
def minimum_u{ws:List Int}{es:List (List Nat)}(hb:HsB ws es)(f g:Bool)(hn:ws.length<=12)(lf:Int)(j:2^(ws.length+1)-1<=lf)(h1:1<=lf)(h2:lf<=9000000000000000000):
  aK prog 32 [aV f g ws es,.int .i64 lf] (PL ws es lf):=by
 have a:=sO hb hn;have e:=greedy_u hb f g hn;have v:=hb.n;simp only[aV,L1,LLn,Ln]at e;refine sPx func32 ?_;simp -dsimp[f32,tg,aV,L1,LLn,Ln];obtain⟨l,d⟩:=ξ (jT ws es);rw[<-d]at e a;have hl:=a;refine cPx e ?_;have p:=weight_u hb f g false l hl.s hl.n;obtain⟨P,T,m1,m2,A,m4,x⟩:=min_all hb j hl
 have i:fh ws es lf=P.2.l:=by unfold fh;rw[<-d,m1]
 have k:P.2.w=wl ws P.2.l:=by rw[m4,x,eE]
 have m:=pq [B.cells [.lst 1 f (ws.map aG),.lst 1 g (es.map (Ln false))],B.cells [.lst 1 false (l.map eN),.int .i64 (wl ws l)]] f g ws es lf hb.n
 have h:∀bl∈[B.cells [.lst 1 f (ws.map aG),.lst 1 g (es.map (Ln false))],B.cells [.lst 1 false (l.map eN),.int .i64 (wl ws l)]],rbB [B.cells [.lst 1 f (ws.map aG),.lst 1 g (es.map (Ln false))],B.cells [.lst 1 false (l.map eN),.int .i64 (wl ws l)]].length bl:=by
  intro bl b;simp only[tw,tq,or_false]at b
  rcases b with rfl | rfl
  .intro c r;simp only[tw,tq,or_false]at r
   rcases r with rfl | rfl
   .exact cT (L1_pure f ws) rfl
   .exact cT (LLn_pure g es) rfl
  .exact bcl_rb _ false ⟨l,wl ws l⟩
 have u:=nsH_at h f g ws es lf;have o:BOk (nsH [B.cells [.lst 1 f (ws.map aG),.lst 1 g (es.map (Ln false))],B.cells [.lst 1 false (l.map eN),.int .i64 (wl ws l)]] f g ws es lf) 4 3 1:=⟨by simp[nsH],by simp[nsH],by simp[nsH],ω,ω,ω,u.rb⟩;have t:(0:Int)<=2^(ws.length+1):=Int.le_of_lt (Int.pow_pos ω);have q:=minimum_h (f:=f) (g:=g) o hb (ws.length+1) (tg ws.length 0) lf ⟨l,wl ws l⟩ false 0 P ζ m1 ω h2 ω ω;have z:HS (nsH [B.cells [.lst 1 f (ws.map aG),.lst 1 g (es.map (Ln false))],B.cells [.lst 1 false (l.map eN),.int .i64 (wl ws l)]] f g ws es lf) 4 3 1 f g ws es lf (tg ws.length 0) (bcl false ⟨l,wl ws l⟩)=nsH [B.cells [.lst 1 f (ws.map aG),.lst 1 g (es.map (Ln false))],B.cells [.lst 1 false (l.map eN),.int .i64 (wl ws l)]] f g ws es lf:=rfl;rw[z]at q;simp only[aV,L1,LLn,Ln]at p;simp only[aV,L1,LLn]at m;simp -dsimp[(ω:¬lf<1),L1,LLn,Ln];refine cPx p ?_;simp -dsimp[L1,LLn,Ln];refine bd m ?_;rintro _ _ ⟨rfl,rfl⟩;simp -dsimp[L1,LLn,Ln];refine bd q ?_;rintro _ _ ⟨rfl,fl,rfl⟩;have y:(HS (nsH [B.cells [.lst 1 f (ws.map aG),.lst 1 g (es.map (Ln false))],B.cells [.lst 1 false (l.map eN),.int .i64 (wl ws l)]] f g ws es lf) 4 3 1 f g ws es P.1 (tg ws.length 0) (bcl fl P.2))[1]?=some (.cells [.lst 1 fl (P.2.l.map eN),.int .i64 P.2.w]):=o.atb;simp -dsimp[y,L1,LLn,Ln];refine sTx ?_;exact⟨fl,by rw[i,k]⟩
theorem oz{ws:List Int}{es:List (List Nat)}{P:List Nde×Int} : ∀(k:Nat) (m:List Nat) (lf b:Int),iS ws es k m lf b=some P->(P.1.length:Int)<=lf-P.2
 | 0,_,_,_,h=>by simp[iS]at h
 | k+1,m,lf,b,h=>by
  rw[iS]at h;split at h
  .cases h
  .split at h
   .cases h;simp only[uX,vm];omega
   .split at h
    .cases h;simp only[uX,vm];omega
    .split at h
     .cases h
     .split at h
      .cases h
      .rename_i p hp;split at h
       .cases h
       .rename_i q hq;have h1:=oz (P:=p) k _ _ _ hp;have h2:=oz (P:=q) k _ _ _ hq;cases h;simp only[uX,uB];omega
def wsum_range{ws:List Int}{n:Nat}(a:∀v<n,1<=ws.getD v 0/\ws.getD v 0<=1000000)(T:Nat->Bool):0<=dA ws T n/\dA ws T n<=1000000*(n:Int):=by
 rw[eE];have h:=wl_le a ((tr n).filter T) (fun v hv=>List.mem_range.1 (List.mem_filter.1 hv).1);have:=uU T (tr n);rw[xb]at this;omega
def pA{ws:List Int}{es:List (List Nat)}(hb:HsB ws es){lf:Int}(b:2^(ws.length+1)-1<=lf){T:Nat->Bool}(i:MinOk ws.length ws es T):
  ∃P,iS ws es (ws.length+1) (tg ws.length 0) lf (dA ws T ws.length)=some P/\lf-(2^(ws.length+1)-1)<=P.2/\(P.1.length:Int)<=2^(ws.length+1)-1/\pZ ws es (dA ws T ws.length) P.1=true:=by
 have h0:∀v,(tg ws.length 0).getD v 0=0:=fun v=>by
  simp only[wU,wL];split<;>rfl
 have g:Wok ws.length ws (tg ws.length 0):=⟨rfl,ζ,fun v hv=>(hb.w v hv).1,fun v _=>by rw[h0];omega⟩
 obtain⟨l,a,p1,c,e⟩:=prv_ok hb.ed (by have:=hb.ne;omega) (ws.length+1) (tg ws.length 0) lf (dA ws T ws.length) g (by rw[gE];omega) (by rw[gE];exact b) (fun T' f=>by
  rw[ri]
  exact i.m T' f.h)
 rw[gE]at c;have hn:=oz _ _ _ _ p1;simp only at hn;refine⟨(l,a),p1,c,θ,?_⟩;have hr:=wsum_range hb.w T;have d:=hb.n;unfold pZ;rw[if_pos (ek.2 hb),if_neg ω];unfold checkP;have:=e [] (l.length+1) ω;rw[uC]at this;simp only;rw[this];rfl
end
end Go.Proofs.YtnaokiodhoadjaaGreatDoor
