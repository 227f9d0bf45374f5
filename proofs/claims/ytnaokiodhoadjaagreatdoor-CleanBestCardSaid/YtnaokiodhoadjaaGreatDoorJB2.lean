/- JB2: texts AMb, joined and shortened by pack6.py. -/
import Derived.Test.YtnaokiodhoadjaaGreatDoorJB1
import Derived.Deep.Upon
set_option linter.all false
set_option maxRecDepth 100000
set_option maxHeartbeats 64000000
open Array renaming length_toList→vV
open List renaming replicate→tg,range→tr,nil_append→uL,length_cons→uX,getElem?_cons_succ→vC,all_cons→vE,getElem?_cons_zero→vI,length_nil→vm
open Nat renaming add_zero→vk
open Option renaming map_some→uS
section
namespace Go.AM
open Go
def bq(x:Option V)(d:Nat):Option Nat :=
 match x with
 | none=>some d
 | some (.int _ n)=>if 0<=n then some n.toNat else none
 | _=>none
def sliceA(T:Ty)(H:List B)(t:TypeId)(x:V)(lo hi mx:Option V):Option V :=
 match T t with
 | none=>none
 | some it=>match it.desc,x with
  | .string,.str b=>match mx,bq lo 0,bq hi b.size with
   | none,some l,some h=>if l<=h/\h<=b.size then some (.str (b.extract l h)) else none
   | _,_,_=>none
  | .slice e,.nilS=>match bq lo 0,bq hi 0,bq mx 0 with
   | some l,some h,some m=>if l=0/\h=0/\m=0/\(mx.isNone||hi.isSome)=true/\(T e).isSome=true then some .nilS else none
   | _,_,_=>none
  | .slice e,.lst z full xs=>match T e,bq lo 0,bq hi xs.length with
   | some j,some l,some h=>if z=j.size/\l<=h/\h<=xs.length then
     match mx with
     | none=>some (.lst z (full&&h == xs.length) ((xs.take h).drop l))
     | some m=>match bq (some m) 0 with
      | some a=>if a=h/\hi.isSome=true then some (.lst z true ((xs.take h).drop l)) else none
      | none=>none
    else none
   | _,_,_=>none
  | .slice e,.buf k off len tot=>match H[k]? with
   | some (.buf _ z xs _)=>match T e,bq lo 0,bq hi len with
    | some j,some l,some h=>if xs.length=tot/\z=j.size/\l<=h/\(h<=len\/off+h<=tot) then
      match mx with
      | none=>if l=h then(if l=0 then some (.buf k off 0 tot) else some (.lst z false [])) else some (.buf k (off+l) (h-l) tot)
      | some m=>match bq (some m) 0 with
       | some a=>if l=h/\a=h/\hi.isSome=true then some (.lst z true []) else if h<=a/\off+a<=tot/\hi.isSome=true then some .undef else none
       | none=>none
     else none
    | _,_,_=>none
   | _=>none
  | .array n e,.ptr k off=>match T e,H[k]?,lo,hi,mx with
   | some j,some (.cells cs),none,none,none=>if off=0/\n=cs.length/\j.size=1/\0<n then some (.sarr k n) else none
   | _,_,_,_,_=>none
  | _,_=>none
section
variable {P:Program} {T:Ty} {s:St}
def ky(s:St)(x:Option V)(u:Option Value):Prop :=
 match x,u with
 | none,none=>True
 | some v,some w=>Rel s v w
 | _,_=>False
def eL{v:V}{u:Value}{n:Nat}{d y:Nat}{code:BoundsCode}(hv:Rel s v u)(h:bq (some v) d=some n)(a:n<=y)(w:World):(Instr.sliceBound u y code).run P w = .ok n w:=by
 unfold bq at h
 cases hv<;>simp only at h<;>try (cases h;done)
 rename_i k i;split at h
 .rename_i h0;cases h;simp[Instr.sliceBound,asIntOf,h0,(ω:i<=(y:Int))]
 .cases h
def eI{lo hi mx:Option V}{c e umx:Option Value}(b:ky s lo c)(a:ky s hi e)(i:ky s mx umx){isS:Bool}{len cap l h m d:Nat}
  (h1:bq lo 0=some l) (h2:bq hi len=some h) (j:bq mx cap=some m) (n:mx=none\/hi.isSome=true) (g:l<=h) (f:h<=m) (k:m<=cap) (o:d=0) (w:World):
  (Instr.sliceBounds isS len cap c e umx).run P w = .ok (l,h,m) w:=by
 cases mx<;>cases umx<;>simp only[ky]at i
 .simp only[bq,Option.some.injEq]at j;subst j;cases hi<;>cases e<;>simp only[ky]at a
  .simp only[bq,Option.some.injEq]at h2;subst h2;cases lo<;>cases c<;>simp only[ky]at b
   .simp only[bq,Option.some.injEq]at h1;subst h1;simp[Instr.sliceBounds]
   .simp[Instr.sliceBounds,eL b h1 g]
  .cases lo<;>cases c<;>simp only[ky]at b
   .simp only[bq,Option.some.injEq]at h1;subst h1;simp[Instr.sliceBounds,eL a h2 f]
   .simp[Instr.sliceBounds,eL a h2 f,eL b h1 g]
 .have hm:=fun code=>eL (P:=P) (y:=cap) (code:=code) i j k w
  cases hi<;>cases e<;>simp only[ky]at a
  .simp at n
  .cases lo<;>cases c<;>simp only[ky]at b
   .simp only[bq,Option.some.injEq]at h1;subst h1;simp[Instr.sliceBounds,hm,eL a h2 f]
   .simp[Instr.sliceBounds,hm,eL a h2 f,eL b h1 g]
def pc{x:Option V}{d a n:Nat}(h:bq x d=some n)(hx:x.isSome=true):bq x a=some n:=by
 cases x with
 | none=>cases hx
 | some v=>cases v<;>exact h
def lst_cut{z:Nat}{full a:Bool}{xs:List V}{A:Option Addr}{cap l h m:Nat}(hx:Rel s (.lst z full xs) (.slice A xs.length cap))(h1:l<=h)(h2:h<=xs.length)(n:h<=m)(hf:a=true->m=h):
  Rel s (.lst z a ((xs.take h).drop l)) (.slice (if m=l then A else A.map (·.add (l*z))) (h-l) (m-l)):=by
 cases hx with
 | lst _ _ _ _ _ b off u hcap hfull hA hz hcell hrel =>
  have d:((xs.take h).drop l).length=h-l:=by simp;omega
  have e:∀i x,((xs.take h).drop l)[i]?=some x->xs[l+i]?=some x:=fun i x hi=>by
   have k:=aB hi;rw[vN,uz,if_pos ω]at hi;exact hi
  have:=Rel.lst (s:=s) z a ((xs.take h).drop l) (if m=l then A else A.map (·.add (l*z))) (m-l) b (off+l*z) (fun i j=>u (l+i) j) ω (fun g=>by rw[d,hf g]) (fun h0=>by
    rw[d]at h0;obtain⟨rfl,hp⟩:=hA ω;rw[if_neg ω]
    exact⟨by simp[cq],hp⟩) (fun x hx=>hz x (uh (vF hx)))
   (fun i x j c hi f=>by
    have:=hcell (l+i) x j c (e i x hi) f
    rwa [uR,<-vU]at this)
   (fun i x j c hi f=>hrel (l+i) x j c (e i x hi) f)
  rwa [d]at this
def slice_sound(p:TOk P T)(X:Good s){t:TypeId}{x r:V}{N:Value}{lo hi mx:Option V}{B D umx:Option Value}(hx:Rel s x N)(b:ky s lo B)(f:ky s hi D)(a:ky s mx umx)
  (h:sliceA T s.H t x lo hi mx=some r):∃u,(Instr.sliceAt t N B D umx).run P s.w = .ok u s.w/\Rel s r u:=by
 unfold sliceA at h;split at h
 .cases h
 .rename_i it hit;have hu:=p.und t it hit;generalize it.desc=d at hu h;split at h
  ·
   rename_i L;split at h
   .rename_i l E q y;split at h
    .rename_i v;cases h;cases hx;cases umx<;>simp only[ky]at a;have hb:=eI (P:=P) (isS:=false) (len:=L.size) (cap:=L.size) (d:=0) b f (mx:=none) (umx:=none) trivial q y rfl (.inl rfl) v.1 v.2 (uA _) rfl s.w;exact⟨.string (L.extract l E),by simp[Instr.sliceAt,Instr.slice,run_underlying hu,hb],.str _⟩
    .cases h
   .cases h
  ·
   rename_i e;split at h
   .rename_i l E m q y Y;split at h
    .rename_i v;obtain⟨rfl,rfl,rfl,hd,K⟩:=v;cases h;cases hx;obtain⟨j,i⟩:=Option.isSome_iff_exists.1 K;have hb:=eI (P:=P) (isS:=true) (len:=0) (cap:=0) (d:=0) b f a q y Y (by simpa using hd) (uA _) (uA _) (uA _) rfl s.w;exact⟨.slice none 0 0,by simp[Instr.sliceAt,Instr.slice,run_underlying hu,hb,ar p i],.nilS⟩
    .cases h
   .cases h
  ·
   rename_i e z full xs;split at h
   .rename_i j l E i q y;split at h
    .rename_i v;obtain⟨hz,g,F⟩:=v
     obtain⟨A,cap,rfl⟩:∃A cap,N = .slice A xs.length cap:=by cases hx;exact⟨_,_,rfl⟩
     have hcap:xs.length<=cap/\(full=true->cap=xs.length):=by cases hx;exact⟨by assumption,by assumption⟩
     split at h
     .cases h;cases umx<;>simp only[ky]at a;have hb:=eI (P:=P) (isS:=true) (len:=xs.length) (cap:=cap) (d:=0) b f (mx:=none) (umx:=none) trivial q y rfl (.inl rfl) g ω (uA _) rfl s.w;refine⟨_,by simp[Instr.sliceAt,Instr.slice,run_underlying hu,hb,ar p i];rfl,?_⟩;rw[<-hz];exact lst_cut hx g F ω (fun hf=>by simp at hf;have:=hcap.2 hf.1;omega)
     .rename_i m;split at h
      .rename_i m' em;split at h
       .rename_i J;obtain⟨rfl,o⟩:=J;cases h;have hb:=eI (P:=P) (isS:=true) (len:=xs.length) (cap:=cap) (d:=0) b f a q y (pc em rfl) (.inr o) g (uA _) ω rfl s.w;refine⟨_,by simp[Instr.sliceAt,Instr.slice,run_underlying hu,hb,ar p i];rfl,?_⟩;rw[<-hz];exact lst_cut hx g F (uA _) (fun _=>rfl)
       .cases h
      .cases h
    .cases h
   .cases h
  ·
   rename_i e k off len tot
   cases hx with
   | buf _ _ _ _ e' z xs fz A cl c hk ht E =>
    rw[hk]at h;simp only at h;split at h
    .rename_i j l M i q y;split at h
     .rename_i v;obtain⟨O,hz,g,Z⟩:=v;obtain⟨hA,rfl,hcap,S⟩:=E O.symm
      have Q:xs.length<=s.κ k:=by obtain⟨_,_,_,U,_⟩:=X.blk k _ hk;exact U
      have an:M<=c:=by omega
      split at h
      .cases umx<;>simp only[ky]at a;have hb:=eI (P:=P) (isS:=true) (len:=cl) (cap:=c) (d:=0) b f (mx:=none) (umx:=none) trivial q y rfl (.inl rfl) g ω (uA _) rfl s.w;split at h
       .rename_i hl;subst hl;split at h
        .rename_i I;subst I;cases h;refine⟨.slice (if c=0 then A else A.map (·.add (0*z))) 0 c,?_,.buf k off 0 tot e' z xs fz _ _ _ hk ht (fun _=>⟨fun h0=>by rw[hA h0];split<;>simp[cq],rfl,ω,ω⟩)⟩;simp[Instr.sliceAt,Instr.slice,run_underlying hu,hb,ar p i,hz]
        .cases h;refine⟨_,by simp[Instr.sliceAt,Instr.slice,run_underlying hu,hb,ar p i];rfl,?_⟩;exact dq _ false _ _ ζ
       .rename_i hl;cases h;have hA:=hA ω;subst hA;refine⟨.slice (some ⟨s.φ k,(off+l)*z,none⟩) (M-l) (c-l),?_,.buf k (off+l) (M-l) tot e' z xs fz _ _ _ hk ht (fun _=>⟨fun _=>rfl,rfl,ω,ω⟩)⟩;simp[Instr.sliceAt,Instr.slice,run_underlying hu,hb,ar p i,(ω:¬(c=l)),cq,uR,hz]
      .rename_i m;split at h
       .rename_i m' em;split at h
        .rename_i C;obtain⟨rfl,rfl,o⟩:=C;cases h;have hb:=eI (P:=P) (isS:=true) (len:=cl) (cap:=c) (d:=0) b f a q y (pc em rfl) (.inr o) (uA _) (uA _) ω rfl s.w;refine⟨_,by simp[Instr.sliceAt,Instr.slice,run_underlying hu,hb,ar p i];rfl,?_⟩;exact dq _ true _ _ (fun _=>rfl)
        .split at h
         .rename_i C;obtain⟨G,ad,o⟩:=C;cases h;have hb:=eI (P:=P) (isS:=true) (len:=cl) (cap:=c) (d:=0) b f a q y (pc em rfl) (.inr o) g G ω rfl s.w;exact⟨_,by simp[Instr.sliceAt,Instr.slice,run_underlying hu,hb,ar p i];rfl,.undef _⟩
         .cases h
       .cases h
     .cases h
    .cases h
  ·
   rename_i n e k off;split at h
   .rename_i j cs i hk;split at h
    .rename_i v;obtain⟨rfl,rfl,hz,R⟩:=v;cases h
     cases hx with
     | ptr _ _ al W =>
      cases B<;>cases D<;>cases umx<;>simp only[ky]at b f a;refine⟨.slice (some ⟨s.φ k,0,none⟩) cs.length cs.length,?_,.sarr k _ cs hk⟩;simp[Instr.sliceAt,run_underlying hu,Instr.sureAddr,Instr.sliceBounds,ar p i,cq]
    .cases h
   .cases h
  .cases h
end
end Go.AM
namespace Go.AM
open Go
theorem kH(g:Nat)(e:TypeId):∀(a:List Value) (o:Nat) (vs:Array Value) (w:World),w.heap[g]?=some (.cells vs e (0,0))->o+a.length<=vs.size ->
  w.setCells g o a=w.setRow g (vs.toList.take o++a++vs.toList.drop (o+a.length)).toArray
 | [],o,vs,w,c,_=>by
  simp only[World.setCells,uC,vm,vk,vT,Array.toArray_toList];rw[setRow_self w g vs e (0,0) c]
 | v::b,o,vs,w,c,hl=>by
  simp only[uX]at hl;rw[World.setCells,setCell_eq_setRow w g o vs e (0,0) v c,kH g e b (o+1) (vs.setIfInBounds o v) _ (setRow_heap w g vs _ e _ c) χ,setRow_setRow];congr 2;have:=list_seg_step vs.toList o v b χ;simpa[Array.toList_setIfInBounds,vU] using this
def byteV(s:ByteArray):List V:=s.data.toList.map fun b=>V.int .u8 b.toNat
def srcA(H:List B)(z:Nat):V->Option (List V)
 | .nilS=>some []
 | .lst z' _ ys=>if z'=z then some ys else none
 | .buf k off len tot=>match H[k]? with
  | some (.buf _ z' xs _)=>if xs.length=tot/\z'=z then some ((xs.drop off).take len) else none
  | _=>none
 | .str a=>if z=1 then some (byteV a) else none
 | _=>none
def srcT:TypeDesc->V->Bool
 | .slice _,.str _=>false
 | .slice _,_=>true
 | .string,.str _=>true
 | _,_=>false
section
variable {P:Program} {T:Ty} {s:St}
def oq(hg:Good s){z:Nat}{tx:TypeId}{d:TypeDesc}{y:V}{U:Value}{ys:List V}(hz:0<z)(t:P.underlying tx=some d)(ht:srcT d y=true)(hy:Rel s y U)(h:srcA s.H z y=some ys):
  ∃B:List Value,Src P z tx U ys.length B s.w/\FRow s z ys B.toArray:=by
 cases hy<;>simp only[srcA]at h<;>try (cases h;done)
 case nilS =>
  cases h
  obtain⟨e',rfl⟩:∃e',d = .slice e':=by cases d<;>simp_all [srcT]
  exact⟨[],Src.ofNil s.w t 0,⟨ζ,ζ,fun i x j c u hx=>by simp at hx⟩⟩
 case lst z' full xs A cap b off u hcap hfull hA C hcell hrel =>
  obtain⟨e',rfl⟩:∃e',d = .slice e':=by cases d<;>simp_all [srcT]
  split at h
  .rename_i q;subst q;cases h;by_cases N:ys.length=0
   .have:ys=[]:=vL N;subst this
    cases A with
    | none=>exact⟨[],Src.ofNil s.w t cap,⟨ζ,ζ,fun i x j c u hx=>by simp at hx⟩⟩
    | some a=>exact⟨[],Src.ofSlice s.w t a 0 cap [] ζ (fun j u h=>by simp at h) ζ,⟨ζ,ζ,fun i x j c u hx=>by simp at hx⟩⟩
   .obtain⟨rfl,hp⟩:=hA ω
    have E:∀m,m<ys.length*z'->m / z'<ys.length/\m % z'<z':=fun m hm=>⟨Nat.div_lt_of_lt_mul (by rw[wG];exact hm),xU _ hz⟩
    have n:∀m,m<ys.length*z'->s.w.cell? ⟨b,off+m,none⟩=some (u (m / z') (m % z'))/\(u (m / z') (m % z')).oneCell'=true:=fun m hm=>by
     obtain⟨h1,h2⟩:=E m hm;have hx:ys[m / z']?=some ys[m / z']:=tm h1;obtain⟨hl,ho⟩:=C _ (ti h1);have g:(ys[m / z']).cells[m % z']?=some ((ys[m / z']).cells[m % z']'ω):=tm ω;have e:=hcell _ _ _ _ hx g;rw[show off+m / z'*z'+m % z'=off+m by rw[wG,vU,yF]]at e;exact⟨e,(hrel _ _ _ _ hx g).oneCell (ho _ (ti _))⟩
    refine⟨(tr (ys.length*z')).map fun m=>u (m / z') (m % z'),Src.ofSlice s.w t _ _ cap _ ζ (fun j x f=>?_) (fun x hx=>?_),⟨ζ,C,fun i x j c w hx g W=>?_⟩⟩
    .have o:=aB f;simp at o;rw[cq,(n j o).1];simp[o]at f;rw[<-f]
    .obtain⟨m,hm,rfl⟩:=List.mem_map.1 hx;exact(n m (by simpa using hm)).2
    .have hi:=aB hx;have f:=aB g;have hl:=(C x (tn hx)).1;have hb:(i+1)*z'<=ys.length*z':=uI _ ω;rw[uR]at hb
     have L:i*z'+j<ys.length*z':=by omega
     have Y:(i*z'+j) / z'=i:=by rw[wG,Nat.mul_add_div hz,yB ω,vk]
     have T:(i*z'+j) % z'=j:=by rw[wG,xo];exact xN ω
     simp[L,Y,T]at W;rw[<-W];exact hrel i x j c hx g
  .cases h
 case buf k off len tot e' z' xs fz A l c hk htot hh =>
  obtain⟨T,rfl⟩:∃e',d = .slice e':=by cases d<;>simp_all [srcT]
  rw[hk]at h;simp only at h;split at h
  .rename_i g;obtain⟨S,q⟩:=g;subst q;cases h;obtain⟨hA,rfl,hcap,X⟩:=hh S.symm;obtain⟨vs,Q,g3,g4,g5,g6,Z⟩:=hg.blk k _ hk
   have v:((xs.drop off).take l).length=l:=by simp;omega
   have E:∀i x,((xs.drop off).take l)[i]?=some x->xs[off+i]?=some x:=fun i x hi=>by
    have:=aB hi;rw[uz,if_pos ω,vN]at hi;exact hi
   have hb:(off+l)*z'<=s.κ k*z':=uI _ ω;rw[uR]at hb
   have F:((vs.toList.drop (off*z')).take (l*z')).length=l*z':=by simp;omega
   have r:∀j x,((vs.toList.drop (off*z')).take (l*z'))[j]?=some x->vs[off*z'+j]?=some x:=fun j x f=>by
    have:=aB f;rw[uz,if_pos ω,vN]at f;simpa using f
   have p:FRow s z' ((xs.drop off).take l) ((vs.toList.drop (off*z')).take (l*z')).toArray:=by
    refine⟨by simp only[List.size_toArray,F,v],fun x hx=>g6 x (vF (uh hx)),fun i x j d u hx t hu=>?_⟩;have h1:=r (i*z'+j) u (by simpa using hu);rw[show off*z'+(i*z'+j)=(off+i)*z'+j by rw[uR];omega]at h1;exact Z (off+i) x j d u (E i x hx) t h1
   refine⟨(vs.toList.drop (off*z')).take (l*z'),?_,p⟩;rw[v];by_cases O:l=0
   .subst O
    have e0:(vs.toList.drop (off*z')).take (0*z')=[]:=by simp
    rw[e0]
    cases A with
    | none=>exact Src.ofNil s.w t c
    | some a=>exact Src.ofSlice s.w t a 0 c [] ζ (fun j x f=>by simp at f) (fun x hx=>by cases hx)
   have I:s.κ k≠0:=by omega
   have hA:=hA I;subst hA;have Q:=Q I;refine Src.ofSlice s.w t _ _ c _ F (fun j x f=>?_) (fun x hx=>?_)
   .rw[cq];have:=r j x f;simp only[World.cell?,Q];simpa using this
   .obtain⟨j,f⟩:=wJ hx;have o:=aB f;rw[F]at o;have d1:j / z'<l:=Nat.div_lt_of_lt_mul (by rw[wG];exact o);have d2:j % z'<z':=xU _ hz;have D:((xs.drop off).take l)[j / z']?=some (((xs.drop off).take l)[j / z']'ω):=tm ω;obtain⟨ad,R⟩:=p.el _ (tn D);have M:(((xs.drop off).take l)[j / z']'ω).cells[j % z']?=some ((((xs.drop off).take l)[j / z']'ω).cells[j % z']'ω):=tm ω
    have hu:((vs.toList.drop (off*z')).take (l*z')).toArray[j / z'*z'+j % z']?=some x:=by
     rw[show j / z'*z'+j % z'=j by rw[wG,yF]];simpa using f
    exact(p.rel _ _ _ _ x D M hu).oneCell (R _ (ti _))
  .cases h
 case str J =>
  split at h
  .rename_i h1;subst h1;cases h
   have K:d = .string:=by cases d<;>simp_all [srcT]
   subst K
   have hl:(byteV J).length=J.size:=by unfold byteV;rw[ud,vV];rfl
   refine⟨byteCells J,by rw[hl];exact Src.ofString s.w t J,⟨by simp[byteCells_length,hl],fun x hx=>?_,fun i x j c u hx g hu=>?_⟩⟩
   .obtain⟨b,_,rfl⟩:=List.mem_map.1 hx;exact⟨rfl,fun c g=>by simp[V.cells]at g;subst g;rfl⟩
   .have D:=tn hx;simp only[byteV,uK,vd]at hx;obtain⟨b,hb,rfl⟩:=hx
    have f:j=0:=by have:=aB g;simp[V.cells]at this;omega
    subst f;simp[V.cells]at g;subst g
    have G:(byteCells J)[i]?=some u:=by simpa using hu
    simp only[byteCells,uK,hb,uS,Option.some.injEq]at G;rw[<-G];exact .int _ _
  .cases h
def St.grow(s:St)(w:World)(k g c:Nat)(bl:B):St:=⟨s.F,w,upd s.φ k g,upd s.κ k c,s.H.set k bl⟩
def pH{s:St}(u:Good s){w:World}{k g c e z:Nat}{xs ys:List V}(hk:s.H[k]?=some (.buf e z xs false))(t:0<ys.length)(p:w.os=s.w.os)(d:w.tape=s.w.tape)(l:w.output=s.w.output)(r:s.w.heap.size<=w.heap.size)
  (hb:∀b,b<s.w.heap.size->(s.κ k≠0->b≠s.φ k)->w.heap[b]?=s.w.heap[b]?) (m:(g=s.φ k/\s.κ k≠0)\/s.w.heap.size<=g):Step s (s.grow w k g c (.buf e z (xs++ys) false)) where
 F:=rfl
 os:=p
 tape:=d
 output:=l
 size:=r
 out b h hn:=hb b h (fun f e=>hn k (lvB hk f) e.symm)
 len:=by simp[St.grow]
 new i h2 h3:=absurd h2 (by have:=h3.1;simp[St.grow]at this;omega)
 keep i b hi:=by
  have q:=aB hi;by_cases a:i=k
  .subst a;rw[hk]at hi;cases hi;refine⟨xs++ys,false,by simp[St.grow,q],ζ,fun he=>by rw[uB]at he;omega,(fun h=>by cases h),?_⟩;simp only[St.grow,aR];exact⟨m.imp And.left id,fun hz=>.inr (m.elim (fun h=>absurd hz h.2) id)⟩
  .have j:(s.grow w k g c (.buf e z (xs++ys) false)).H[i]?=some b:=by simp only[St.grow];rw[uH (Ne.symm a)];exact hi
   have n:(s.grow w k g c (.buf e z (xs++ys) false)).φ i=s.φ i:=cM _ _ a;have v:(s.grow w k g c (.buf e z (xs++ys) false)).κ i=s.κ i:=cM _ _ a
   cases b with
   | cells cs=>exact⟨n,cs,j⟩
   | map kk es=>exact⟨n,es,j⟩
   | buf e0 z0 o fz=>exact⟨o,fz,j,uA _,fun _=>⟨n,v⟩,fun hf=>⟨hf,rfl,fun hz=>hb _ (u.lt i (lvB hi hz)).1 (fun f e=>a (u.inj i k (lvB hi hz) (lvB hk f) e))⟩,.inl n,fun hz=>.inl (by rw[v];exact hz)⟩
def grow_good{s:St}(n:Good s){w:World}{k g c e z:Nat}{xs ys:List V}(hk:s.H[k]?=some (.buf e z xs false))(y:0<ys.length)(B:w.os=s.w.os)(t:w.tape=s.w.tape)(v:w.output=s.w.output)(q:s.w.heap.size<=w.heap.size)
  (hb:∀b,b<s.w.heap.size->(s.κ k≠0->b≠s.φ k)->w.heap[b]?=s.w.heap[b]?) (r:(g=s.φ k/\s.κ k≠0)\/s.w.heap.size<=g) (I:g<w.heap.size)
  (E:Step s (s.grow w k g c (.buf e z (xs++ys) false))->BRel (s.grow w k g c (.buf e z (xs++ys) false)) k (.buf e z (xs++ys) false)):Good (s.grow w k g c (.buf e z (xs++ys) false)):=by
 have u:=pH (c:=c) n hk y B t v q hb r;have A:=aB hk
 have L:(s.grow w k g c (.buf e z (xs++ys) false)).H.length=s.H.length:=by simp[St.grow]
 have a:∀i,i≠k->(s.grow w k g c (.buf e z (xs++ys) false)).φ i=s.φ i:=fun i hi=>cM _ _ hi
 have f:(s.grow w k g c (.buf e z (xs++ys) false)).φ k=g:=aR _ _ _
 have m:∀i,i≠k->Lv (s.grow w k g c (.buf e z (xs++ys) false)) i->Lv s i:=fun i o hl=>⟨by have:=hl.1;omega,fun e' M F C G=>by
  have:=hl.2 e' M F C (by simp only[St.grow];rw[uH (Ne.symm o)];exact G)
  rwa [show(s.grow w k g c (.buf e z (xs++ys) false)).κ i=s.κ i from cM _ _ o]at this⟩
 refine⟨fun b h=>uT (n.fl b h) q,fun i hi=>?_,fun i j hi K e=>?_,fun i b hi=>?_⟩
 .by_cases d:i=k
  .subst d;rw[f];refine⟨I,fun J=>?_⟩
   rcases r with h | h
   .rw[h.1]at J;exact(n.lt i (lvB hk h.2)).2 J
   .have:=n.fl g J;omega
  .rw[a i d];have:=n.lt i (m i d hi);exact⟨uT this.1 q,this.2⟩
 .have p:∀i,Lv s i->i≠k->s.φ i≠g:=fun i hi o e=>by
   rcases r with h | h
   .exact o (n.inj i k hi (lvB hk h.2) (e.trans h.1))
   .have:=(n.lt i hi).1;omega
  by_cases d:i=k<;>by_cases l:j=k
  .omega
  .subst d;rw[f,a j l]at e;exact absurd e.symm (p j (m j l K) l)
  .subst l;rw[f,a i d]at e;exact absurd e (p i (m i d hi) d)
  .rw[a i d,a j l]at e;exact n.inj i j (m i d hi) (m j l K) e
 .by_cases d:i=k
  .subst d
   have:(s.grow w i g c (.buf e z (xs++ys) false)).H[i]?=some (.buf e z (xs++ys) false):=by simp[St.grow,A]
   rw[this]at hi;cases hi;exact E u
  .have x:s.H[i]?=some b:=by simp only[St.grow]at hi;rwa [uH (Ne.symm d)]at hi
   exact(n.blk i b x).step u x (a i d) (cM _ _ d) (fun hl=>hb _ (n.lt i hl).1 (fun D e=>d (n.inj i k hl (lvB hk D) e)))
def fill_row(A:Good s){k e z o:Nat}{xs ys:List V}{a:List Value}{vs:Array Value}(hk:s.H[k]?=some (.buf e z xs false))(p:s.κ k≠0)(t:FRow s z ys a.toArray)(ho:o+ys.length<=xs.length)
  (hv:s.w.heap[s.φ k]?=some (.cells vs e (0,0))) (C:World) (P:C=s.w.setRow (s.φ k) (vs.toList.take (o*z)++a++vs.toList.drop (o*z+a.length)).toArray):
  Good (s.setB C k (.buf e z (bf xs o ys) false))/\Step s (s.setB C k (.buf e z (bf xs o ys) false)):=by
 subst P;obtain⟨M,r,G,L,I,E,J⟩:=A.blk k _ hk;have r:=r p;rw[hv]at r;cases r;have n:=lvB hk p
 have N:a.length=ys.length*z:=by have:=t.len;simpa using this
 have hb:(o+ys.length)*z<=s.κ k*z:=uI _ ω;rw[uR]at hb;have q:B.alike (.buf e z xs false) (.buf e z (bf xs o ys) false):=⟨rfl,rfl,(eH xs o ys ho).symm,rfl,rfl⟩;refine⟨bw A hk n q rfl rfl rfl ζ (fun b _ g=>setRow_other _ _ _ _ g) (fun l=>?_),bj A hk n q rfl rfl rfl ζ (fun b _ g=>setRow_other _ _ _ _ g)⟩;refine⟨_,fun _=>setRow_heap _ _ _ _ _ _ hv,?_,by rw[eH xs o ys ho];simpa[St.setB] using L,I,fun y f=>?_,fun m y j c u f x hu=>?_⟩
 .simp only[St.setB];rw[<-G];simp;omega
 .rcases gQ f with h | h
  .exact E y h
  .exact t.el y h
 .have d:(vs.toList.take (o*z)++a++vs.toList.drop (o*z+a.length))[m*z+j]?=some u:=by simpa using hu
  rw[cD vs.toList _ a χ]at d;rw[bf,cD xs o ys ho]at f;have O:=aB x;by_cases i:o<=m/\m<o+ys.length
  .rw[if_pos i]at f;have v:=(t.el y (tn f)).1;have h1:o*z<=m*z:=uI _ i.1;have h2:(m+1)*z<=(o+ys.length)*z:=uI _ ω;rw[uR,uR,yI]at h2;rw[if_pos ω]at d;refine(t.rel (m-o) y j c u f x ?_).step l;rw[show m*z+j-o*z=(m-o)*z+j by rw[Nat.sub_mul];omega]at d;simpa using d
  .rw[if_neg i]at f;have v:=(E y (tn f)).1
   have D:¬(o*z<=m*z+j/\m*z+j<o*z+a.length):=by
    rintro⟨q1,Q⟩
    rcases uP m o with F | K
    .have:(m+1)*z<=o*z:=uI _ ω;rw[uR]at this;omega
    .have:(o+ys.length)*z<=m*z:=uI _ ω;rw[uR]at this;omega
   rw[if_neg D]at d;exact(J m y j c u f x (by simpa using d)).step l
def rD(T:Ty)(H:List B)(t tx:TypeId)(x y:V):Option (V×List B):=
 match T t,T tx with
 | some it,some a=>match it.desc with
  | .slice e=>match T e with
   | some j=>if 0<j.size/\srcT a.desc y=true then
     match srcA H j.size y with
     | some ys =>
      match x with
      | .nilS=>if ys.length=0 then some (x,H) else
        if ys.length<=9223372036854775807/\ys.length*j.bytes<=140737488355328 then(if it.pa=true then some (.lst j.size false ys,H) else some (.buf H.length 0 ys.length ys.length,H++[.buf e j.size ys false])) else none
      | .lst z full xs=>if ys.length=0 then some (x,H) else
        if z=j.size/\full=true/\xs.length+ys.length<=9223372036854775807/\(xs.length+ys.length)*j.bytes<=140737488355328 then
         (if it.pa=true then some (.lst j.size false (xs++ys),H) else some (.buf H.length 0 (xs.length+ys.length) (xs.length+ys.length),H++[.buf e j.size (xs++ys) false])) else none
      | .buf k off len tot=>match H[k]? with
       | some (.buf e' z xs false)=>if xs.length=tot/\e'=e/\z=j.size/\off=0/\len=tot then
         (if ys.length=0 then some (x,H) else
          if tot+ys.length<=9223372036854775807/\(tot+ys.length)*j.bytes<=140737488355328 then
           some (.buf k 0 (tot+ys.length) (tot+ys.length),H.set k (.buf e z (xs++ys) false)) else none)
         else if xs.length=tot/\e'=e/\z=j.size/\off+len+ys.length<=tot then some (.buf k off (len+ys.length) tot,H.set k (.buf e z (bf xs (off+len) ys) false)) else none
       | _=>none
      | _=>none
     | none=>none
    else none
   | none=>none
  | _=>none
 | _,_=>none
def px{z:Nat}{xs ys:List V}{us vs:Array Value}(h1:FRow s z xs us)(h2:FRow s z ys vs):FRow s z (xs++ys) (us++vs):=by
 refine⟨by simp[h1.len,h2.len,uR],fun x hx=>?_,fun i x j c u hx a hu=>?_⟩
 .rcases List.mem_append.1 hx with h | h
  .exact h1.el x h
  .exact h2.el x h
 .have b:=aB a;by_cases hi:i<xs.length
  .rw[tu hi]at hx;have hl:=(h1.el x (tn hx)).1;have hb:(i+1)*z<=xs.length*z:=uI _ ω;rw[uR]at hb;rw[vo,if_pos (by have:=h1.len;omega)]at hu;exact h1.rel i x j c u hx a hu
  .rw[uD ω]at hx;have hb:xs.length*z<=i*z:=uI _ ω;rw[vo,if_neg (by have:=h1.len;omega),h1.len]at hu;refine h2.rel (i-xs.length) x j c u hx a ?_;rw[<-hu];congr 1;rw[Nat.sub_mul];omega
def pL{z:Nat}{xs:List V}{us vs:Array Value}(h1:FRow s z xs us):∀(i:Nat) x (j:Nat) c u,xs[i]?=some x->x.cells[j]?=some c->(us++vs)[i*z+j]?=some u->Rel s c u:=fun i x j c u hx a hu=>by
 have b:=aB a;have hi:=aB hx;have hl:=(h1.el x (tn hx)).1;have hb:(i+1)*z<=xs.length*z:=uI _ ω;rw[uR]at hb;rw[vo,if_pos (by have:=h1.len;omega)]at hu;exact h1.rel i x j c u hx a hu
def new_row(i:Good s){e z need old:Nat}{all:List V}{us zs:Array Value}(a:FRow s z all us)(hall:all.length=need)(d:need<=maxLen)(f:zs.size=(grownCap s.w need old e-need)*z):
  let c:=s.w.drew.alloc (.cells (us++zs) e)
  Good (s.push c s.w.heap.size (grownCap s.w need old e) (.buf e z all false))/\Step s (s.push c s.w.heap.size (grownCap s.w need old e) (.buf e z all false))/\
   Rel (s.push c s.w.heap.size (grownCap s.w need old e) (.buf e z all false)) (.buf s.H.length 0 need need) (.slice (some ⟨s.w.heap.size,0,none⟩) need (grownCap s.w need old e)):=by
 intro c;have j:=grownCap_ge s.w need old e;have h:=grownCap_le_maxLen s.w need old e d
 have ho:∀b,b<s.w.heap.size->c.heap[b]?=s.w.heap[b]?:=fun b hb=>ey s.w.drew _ b hb
 refine⟨gD i rfl rfl rfl (by show s.w.heap.size<=(s.w.drew.alloc _).heap.size;simp) ho (uA _) (by show s.w.heap.size<(s.w.drew.alloc _).heap.size;simp) (fun g=>?_),ep i rfl rfl rfl (by show s.w.heap.size<=(s.w.drew.alloc _).heap.size;simp) ho (uA _),?_⟩
 .refine⟨us++zs,?_,?_,?_,?_,a.el,pL (a.step g)⟩
  .intro _;simp only[St.push,aR];exact ez s.w.drew _
  .simp only[St.push,aR,wg,a.len,f,hall];rw[<-uR];congr 1;omega
  .simp only[St.push,aR];omega
  .simp only[St.push,aR];exact h
 .refine .buf s.H.length 0 need need e z all false _ _ _ (by simp[St.push]) ω (fun _=>?_);simp only[St.push,aR,vp];exact⟨fun _=>trivial,trivial,ω,ω⟩
def pure_row(f:Good s){e z need old:Nat}{all:List V}{us zs:Array Value}(a:FRow s z all us)(hall:all.length=need):
  let c:=s.w.drew.alloc (.cells (us++zs) e)
  Good (s.at c)/\Step s (s.at c)/\Rel (s.at c) (.lst z false all) (.slice (some ⟨s.w.heap.size,0,none⟩) need (grownCap s.w need old e)):=by
 intro c
 have ho:∀b,b<s.w.heap.size->c.heap[b]?=s.w.heap[b]?:=fun b hb=>ey s.w.drew _ b hb
 obtain⟨m,l⟩:=ig f (w:=c) rfl rfl rfl (by show s.w.heap.size<=(s.w.drew.alloc _).heap.size;simp) ho;refine⟨m,l,?_⟩;have hp:(s.at c).Prot s.w.heap.size:=⟨by show s.w.heap.size<(s.w.drew.alloc _).heap.size;simp,fun n=>by have:=f.fl _ n;omega,fun k hk e=>by have:=(f.lt k hk).1;have e':s.φ k=s.w.heap.size:=e;omega⟩;have hcell:c.heap[s.w.heap.size]?=some (.cells (us++zs) e (0,0)):=ez s.w.drew _
 have:=Rel.lst (s:=s.at c) z false all (some ⟨s.w.heap.size,0,none⟩) (grownCap s.w need old e) s.w.heap.size 0 (fun i j=>(us[i*z+j]?).getD undef) (by rw[hall];exact grownCap_ge s.w need old e) ζ (fun _=>⟨rfl,hp⟩) a.el
  (fun i x j d hx h=>by
   obtain⟨u,hu,_⟩:=a.at_ hx h;have g:=(Array.getElem?_eq_some_iff.1 hu).1;show c.cell? _=_;rw[vD,hu];simp only[World.cell?,hcell];rw[vo,if_pos g,hu]
   rfl)
  (fun i x j d hx h=>by
   obtain⟨u,hu,hr⟩:=a.at_ hx h;rw[hu]
   exact hr.step l)
 rwa [hall]at this
def append_sound(hT:TOk P T)(C:Good s){t tx ty:TypeId}{x y r:V}{ux R:Value}{H':List B}(hx:Rel s x ux)(hy:Rel s y R)(h:rD T s.H t tx x y=some (r,H')):
  ∃u s',(Builtin.append_ #[t,tx] ty #[ux,R]).run P s.w = .ok u s'.w/\s'.H=H'/\Good s'/\Step s s'/\Rel s' r u:=by
 unfold rD at h;split at h
 .rename_i it ix hit a6;have hu:=hT.und t it hit;have be:=hT.und tx ix a6;split at h
  .rename_i e hd;rw[hd]at hu;split at h
   .rename_i j hj;obtain⟨inf,q1,N,q3,q4,q5,q6⟩:=hT.info e j hj;split at h
    .rename_i a2;obtain⟨hz,ax⟩:=a2;split at h
     .rename_i ys a7;obtain⟨d,I,hF⟩:=oq (P:=P) C hz be ax hy a7;rw[<-N]at I
      have X:∀n,(Builtin.zeroCells j.zval.cells n).size=n*j.size:=fun n=>by
       have:=((dp (s:=s) q5).cells (io q5)).1;simp[Builtin.zeroCells,this,q6]
      have q:∀base E D,ux = .slice base E D->E<=D->ys.length=0->(Builtin.append_ #[t,tx] ty #[ux,R]).run P s.w = .ok ux s.w:=fun base E D e1 e2 e3=>by
       have hn:d=[]:=vL (by have:=I.newsLen;rw[e3]at this;simpa using this);rw[e3,hn]at I;subst e1;exact run_append_nothing s.w t tx ty e inf hu q1 base E D e2 R I
      split at h
      ·
       cases hx;split at h
       .rename_i h0;cases h;exact⟨_,s,q none 0 0 rfl (uA _) h0,rfl,C,Step.refl s,.nilS⟩
       .rename_i h0;split at h
        .rename_i Q;have f:=run_append_grow_src (P:=P) s.w t tx ty e inf j.zval hu q1 q4 none 0 0 [] (run_firstCells_none s.w.drew _ 0 0 0) R ys.length d I ω ω (growslice_fits ω (by rw[q3,vD];omega));simp only[vD,uL]at f;split at h
         .cases h;obtain⟨U,p,M⟩:=pure_row (zs:=Builtin.zeroCells j.zval.cells (grownCap s.w ys.length 0 e-ys.length)) (old:=0) (e:=e) C hF rfl;exact⟨_,s.at _,f,rfl,U,p,M⟩
         cases h;obtain⟨U,p,M⟩:=new_row (zs:=Builtin.zeroCells j.zval.cells (grownCap s.w ys.length 0 e-ys.length)) (old:=0) (e:=e) C hF rfl (by simp only[maxLen];omega) (X _);exact⟨_,_,f,rfl,U,p,M⟩
        .cases h
      ·
       rename_i z full xs
       obtain⟨A,cap,rfl⟩:∃A cap,ux = .slice A xs.length cap:=by cases hx;exact⟨_,_,rfl⟩
       have hcap:xs.length<=cap/\(full=true->cap=xs.length):=by cases hx;exact⟨by assumption,by assumption⟩
       split at h
       .rename_i h0;cases h;exact⟨_,s,q A xs.length cap rfl hcap.1 h0,rfl,C,Step.refl s,hx⟩
       .rename_i h0;split at h
        .rename_i Q;obtain⟨rfl,hf,bx,bv⟩:=Q;have a8:=hcap.2 hf;subst a8;obtain⟨J,ay,br⟩:=oq (P:=P) (tx:=t) C hz hu (y:=.lst j.size full xs) (ys:=xs) rfl hx (by simp[srcA]);rw[<-N]at ay;have f:=run_append_grow_src (P:=P) s.w t tx ty e inf j.zval hu q1 q4 A xs.length xs.length J ay.cellsD R ys.length d I ω ω (growslice_fits ω (by rw[q3];omega));have v:=px br hF;rw[show(J++d).toArray=J.toArray++d.toArray by simp]at f;split at h
         .cases h;obtain⟨U,p,M⟩:=pure_row (zs:=Builtin.zeroCells j.zval.cells (grownCap s.w (xs.length+ys.length) xs.length e-(xs.length+ys.length))) (old:=xs.length) (e:=e) (need:=xs.length+ys.length) C v uB;exact⟨_,s.at _,f,rfl,U,p,M⟩
         cases h;obtain⟨U,p,M⟩:=new_row (zs:=Builtin.zeroCells j.zval.cells (grownCap s.w (xs.length+ys.length) xs.length e-(xs.length+ys.length))) (old:=xs.length) (e:=e) C v ζ (by simp only[maxLen];omega) (X _);exact⟨_,_,f,rfl,U,p,M⟩
        .cases h
      ·
       rename_i k off len tot;split at h
       .rename_i e' z xs hk;split at h
        .rename_i Q;obtain⟨L,rfl,rfl,rfl,rfl⟩:=Q
         cases hx with
         | buf _ _ _ _ e2 z2 aA bi A l c K az Z =>
          rw[hk]at K;cases K;obtain⟨hA,rfl,hcap,S⟩:=Z L.symm;obtain⟨vs,p,M,g4,g5,g6,g7⟩:=C.blk k _ hk;simp only[vD]at hcap S;subst hcap;split at h
          .rename_i h0;cases h;exact⟨_,s,q _ _ _ rfl ω h0,rfl,C,Step.refl s,.buf k 0 l l e' j.size xs false _ _ _ hk ω (fun he=>⟨hA,rfl,ω,ω⟩)⟩
          .rename_i h0;split at h
           .rename_i Q;cases h;subst L;have ad:=I.newsLen;rw[N]at ad
            have Y:(xs++ys).length=xs.length+ys.length:=by simp
            have hold:FRow s j.size xs (vs.toList.take (xs.length*j.size)).toArray:=by
             have hb:xs.length*j.size<=s.κ k*j.size:=uI _ g4;refine⟨χ,g6,fun i x m c u hx Q hu=>?_⟩
             have O:(vs.toList.take (xs.length*j.size))[i*j.size+m]?=some u:=by simpa using hu
             rw[uz]at O;split at O
             .exact g7 i x m c u hx Q (by simpa using O)
             .cases O
            have v:=px hold hF;by_cases G:xs.length+ys.length<=s.κ k
            .have g:s.κ k≠0:=by omega
             have hA:=hA g;subst hA;have p:=p g;have hb:(xs.length+ys.length)*j.size<=s.κ k*j.size:=uI _ G;rw[uR]at hb
             have hcell:∀m,m<d.length->(s.w.cell? ⟨s.φ k,0+xs.length*inf.size+m,none⟩).isSome=true:=fun m hm=>by
              rw[N];simp only[World.cell?,p];simp;omega
             have F:∀m,m<d.length->s.w.frozen? ⟨s.φ k,0+xs.length*inf.size+m,none⟩=false:=fun m hm=>by simp[World.frozen?,p]
             have f:=run_append_room_src (P:=P) s.w t tx ty e' inf hu q1 (s.φ k) 0 xs.length (s.κ k) R ys.length d I G hcell F;rw[N,vD,kH (s.φ k) e' d _ vs s.w p ω]at f;rw[vp];refine⟨_,s.grow _ k (s.φ k) (s.κ k) _,f,rfl,?_,pH C hk ω rfl rfl rfl ζ (fun b _ al=>setRow_other _ _ _ _ (al g)) (.inl ⟨rfl,g⟩),?_⟩
             .refine grow_good C hk ω rfl rfl rfl ζ (fun b _ al=>setRow_other _ _ _ _ (al g)) (.inl ⟨rfl,g⟩) (by have:=(C.lt k (lvB hk g)).1;simpa using this) (fun W=>?_);refine⟨_,fun _=>by simp only[St.grow,aR];exact setRow_heap _ _ _ _ _ _ p,?_,?_,?_,v.el,?_⟩
              .simp only[St.grow,aR];rw[<-M];simp;omega
              .simp only[St.grow,aR];omega
              .simp only[St.grow,aR];exact g5
              .have:=pL (vs:=(vs.toList.drop (xs.length*j.size+d.length)).toArray) (v.step W);simpa using this
             .refine .buf k 0 _ _ e' j.size (xs++ys) false _ _ _ (by simp[St.grow,aB hk]) ω (fun _=>?_);simp only[St.grow,aR,vp];exact⟨fun _=>trivial,trivial,ω,ω⟩
            .have an:(Builtin.firstCells inf.size xs.length (.slice A xs.length (s.κ k))).run P s.w.drew = .ok (vs.toList.take (xs.length*j.size)).toArray s.w.drew:=by
              by_cases aJ:xs.length=0
              .rw[aJ,vp]
               cases A with
               | none=>simpa using run_firstCells_none s.w.drew inf.size 0 0 (s.κ k)
               | some a=>simpa using run_firstCells_some s.w.drew inf.size 0 a 0 (s.κ k) [] ζ (fun j u h=>by simp at h)
              have g:s.κ k≠0:=by omega
              have hA:=hA g;subst hA;have p:=p g;have hb:xs.length*j.size<=s.κ k*j.size:=uI _ g4;refine run_firstCells_some s.w.drew _ _ _ _ _ _ (by rw[N];simp;omega) (fun m u hm=>?_);have b1:=aB hm;rw[uz]at hm;split at hm
              .rw[cq];simp only[World.cell?];rw[show s.w.drew.heap=s.w.heap from rfl,p];simpa using hm
              .cases hm
             have f:=run_append_grow_src (P:=P) s.w t tx ty e' inf j.zval hu q1 q4 A xs.length (s.κ k) (vs.toList.take (xs.length*j.size)) an R ys.length d I ω ω (growslice_fits ω (by rw[q3];omega));have b2:=grownCap_ge s.w (xs.length+ys.length) (s.κ k) e';have bb:=grownCap_le_maxLen s.w (xs.length+ys.length) (s.κ k) e' (by simp only[maxLen];omega);rw[show(vs.toList.take (xs.length*j.size)++d).toArray=(vs.toList.take (xs.length*j.size)).toArray++d.toArray by simp]at f
             have ho:∀o b,b<s.w.heap.size->(s.κ k≠0->b≠s.φ k)->(s.w.drew.alloc o).heap[b]?=s.w.heap[b]?:=fun o b hb _=>ey s.w.drew o b hb
             refine⟨_,s.grow _ k s.w.heap.size (grownCap s.w (xs.length+ys.length) (s.κ k) e') _,f,rfl,?_,pH C hk ω rfl rfl rfl (by show s.w.heap.size<=(s.w.drew.alloc _).heap.size;simp) (ho _) (.inr (uA _)),?_⟩
             .refine grow_good C hk ω rfl rfl rfl (by show s.w.heap.size<=(s.w.drew.alloc _).heap.size;simp) (ho _) (.inr (uA _)) (by show s.w.heap.size<(s.w.drew.alloc _).heap.size;simp) (fun W=>?_);refine⟨_,fun _=>by simp only[St.grow,aR];exact ez s.w.drew _,?_,?_,?_,v.el,pL (v.step W)⟩
              .simp only[St.grow,aR,wg,X];have:=v.len;rw[wg]at this;rw[this,Y,<-uR];congr 1;omega
              .simp only[St.grow,aR];omega
              .simp only[St.grow,aR];exact bb
             .refine .buf k 0 _ _ e' j.size (xs++ys) false _ _ _ (by simp[St.grow,aB hk]) ω (fun _=>?_);simp only[St.grow,aR,vp];exact⟨fun _=>trivial,trivial,ω,ω⟩
           .cases h
        .rename_i ba;split at h
         .rename_i Q;obtain⟨L,rfl,rfl,bz⟩:=Q;cases h
          cases hx with
          | buf _ _ _ _ e2 z2 aA bi A l c K az Z =>
           rw[hk]at K;cases K;obtain⟨hA,rfl,hcap,S⟩:=Z L.symm;obtain⟨vs,p,M,g4,g5,g6,g7⟩:=C.blk k _ hk
           have bY:tot≠0:=fun h0=>ba ⟨L,rfl,rfl,ω,ω⟩
           have g:s.κ k≠0:=by omega
           have hA:=hA g;subst hA;have p:=p g;have ad:=I.newsLen;rw[N]at ad;have hb:(off+l+ys.length)*j.size<=s.κ k*j.size:=uI _ ω;rw[uR,uR]at hb
           have hcell:∀m,m<d.length->(s.w.cell? ⟨s.φ k,off*j.size+l*inf.size+m,none⟩).isSome=true:=fun m hm=>by
            rw[N];simp only[World.cell?,p];simp;omega
           have F:∀m,m<d.length->s.w.frozen? ⟨s.φ k,off*j.size+l*inf.size+m,none⟩=false:=fun m hm=>by simp[World.frozen?,p]
           have f:=run_append_room_src (P:=P) s.w t tx ty e' inf hu q1 (s.φ k) (off*j.size) l c R ys.length d I ω hcell F;rw[N,<-uR,kH (s.φ k) e' d _ vs s.w p (by rw[uR];omega)]at f;obtain⟨f1,f2⟩:=fill_row (o:=off+l) C hk g hF ω p _ rfl;refine⟨_,_,f,rfl,f1,f2,?_⟩;refine .buf k off _ tot e' j.size (bf xs (off+l) ys) false _ _ _ (by simp[St.setB,aB hk]) (by rw[eH xs _ _ ω];omega) (fun _=>?_);exact⟨fun _=>rfl,rfl,hcap,ω⟩
         .cases h
       .cases h
      .cases h
     .cases h
    .cases h
   .cases h
  .cases h
 .cases h
def jq(T:Ty)(H:List B)(t tx:TypeId)(x y:V):Option (V×List B):=
 match x with
 | .sarr k n=>match T t,T tx,H[k]? with
  | some it,some a,some (.cells cs)=>match it.desc with
   | .slice e=>match T e with
    | some j=>if j.size=1/\srcT a.desc y=true/\n=cs.length then
      (match srcA H 1 y with
      | some ys=>if ys.length<=n then some (.int .i64 ys.length,H.set k (.cells (bf cs 0 (ys.flatMap V.cells)))) else none
      | none=>none) else none
    | none=>none
   | _=>none
  | _,_,_=>none
 | _=>none
def copy_sound(O:TOk P T)(J:Good s){t tx ty:TypeId}{x y r:V}{ux Z:Value}{H':List B}(hx:Rel s x ux)(hy:Rel s y Z)(h:jq T s.H t tx x y=some (r,H')):
  ∃u s',(Builtin.copy_ #[t,tx] ty #[ux,Z]).run P s.w = .ok u s'.w/\s'.H=H'/\Good s'/\Step s s'/\Rel s' r u:=by
 unfold jq at h;split at h
 .rename_i k n;split at h
  .rename_i it ix cs hit Q hk;have hu:=O.und t it hit;have X:=O.und tx ix Q;split at h
   .rename_i e K;rw[K]at hu;split at h
    .rename_i j hj;split at h
     .rename_i g;obtain⟨hz,D,rfl⟩:=g;split at h
      .rename_i ys q;split at h
       .rename_i v;cases h
        cases hx with
        | sarr _ _ al ad =>
         obtain⟨a,C,L⟩:=oq (P:=P) J (by omega:0<1) X D hy q;obtain⟨h1,vs,e',h2,h3,h4⟩:=J.blk k _ hk;have f:∀y∈ys,y.cells.length=1/\∀c∈y.cells,c.one=true:=L.el
         have G:(ys.flatMap V.cells).length=ys.length:=by
          clear q v L C
          induction ys with
          | nil=>rfl
          | cons y ys Y=>simp only[wN,uB,uX,(f y ζ).1,Y (fun z hz=>f z (by simp[hz]))];omega
         have F:∀(i:Nat) c,(ys.flatMap V.cells)[i]?=some c->∃y,ys[i]?=some y/\y.cells[0]?=some c:=by
          clear q v L C G
          induction ys with
          | nil=>intro i c g;simp at g
          | cons y ys Y =>
           intro i c g;obtain⟨d,K⟩:∃d,y.cells=[d]:=List.length_eq_one_iff.1 (f y ζ).1;rw[wN,K]at g
           cases i with
           | zero=>simp at g;exact⟨y,rfl,by rw[K,<-g];rfl⟩
           | succ i=>simpa using Y (fun z hz=>f z (by simp[hz])) i c (by simpa using g)
         have U:a.length=ys.length:=by rw[C.newsLen];omega
         have m:=run_storeCells_at (P:=P) (s.φ k) 0 e' a 0 vs s.w h2 χ C.one;simp only[vk]at m
         have o:(0:Nat)+(ys.flatMap V.cells).length<=cs.length:=by omega
         refine⟨.int .i64 ys.length,s.setB (s.w.setRow (s.φ k) (vs.toList.take 0++a++vs.toList.drop (0+a.length)).toArray) k (.cells (bf cs 0 (ys.flatMap V.cells))),?_,rfl,?_,?_,.int _ _⟩
         .have I:Nat.min ys.length cs.length=ys.length:=xp v;have E:=ar (P:=P) O hj;rw[hz]at E;simp only[Builtin.copy_,Sem.run_bind,Sem.run_pure,Result.andThen_ok,List.getElem?_toArray,vI,vC,run_underlying hu,C.len,I,E,C.cells,m,goInt];rfl
         .refine bw J hk (lvC hk) trivial rfl rfl rfl ζ (fun b _ A=>setRow_other _ _ _ _ A) (fun m=>?_);refine⟨fun c g=>?_,_,e',setRow_heap _ _ _ _ _ _ h2,?_,fun j c u g hu=>?_⟩
          .rcases gQ g with h | h
           .exact h1 c h
           .obtain⟨W,R,M⟩:=List.mem_flatMap.1 h;exact(f W R).2 c M
          .rw[eH cs 0 _ o];simp;omega
          .rw[bf,cD cs 0 _ o]at g
           have l:(vs.toList.take 0++a++vs.toList.drop (0+a.length))[j]?=some u:=by simpa using hu
           rw[cD vs.toList 0 a χ]at l;rw[G]at g;rw[U]at l;split at g
           .rename_i p;rw[if_pos p]at l;obtain⟨W,N,S⟩:=F _ c g;exact(L.rel _ W 0 c u N S (by simpa using l)).step m
           .rename_i p;rw[if_neg p]at l;exact(h4 j c u g (by simpa using l)).step m
         .exact bj J hk (lvC hk) trivial rfl rfl rfl ζ (fun b _ A=>setRow_other _ _ _ _ A)
       .cases h
      .cases h
     .cases h
    .cases h
   .cases h
  .cases h
 .cases h
def clearA(T:Ty)(H:List B)(t:TypeId)(x:V):Option (V×List B):=
 match x with
 | .buf k off len tot=>match T t,H[k]? with
  | some it,some (.buf e z xs false)=>match it.desc with
   | .slice e'=>match T e' with
    | some j=>if j.size=z/\0<z/\tot=xs.length/\off+len<=tot then some (.tup [],if len=0 then H else H.set k (.buf e z (bf xs off (tg len j.zero)) false)) else none
    | none=>none
   | _=>none
  | _,_=>none
 | _=>none
def clear_sound(Q:TOk P T)(L:Good s){t ty:TypeId}{x r:V}{W:Value}{H':List B}(hx:Rel s x W)(h:clearA T s.H t x=some (r,H')):
  ∃u s',(Builtin.clear_ #[t] ty #[W]).run P s.w = .ok u s'.w/\s'.H=H'/\Good s'/\Step s s'/\Rel s' r u:=by
 unfold clearA at h;split at h
 .rename_i k off len tot;split at h
  .rename_i it e z xs hit hk;have hu:=Q.und t it hit;split at h
   .rename_i e' G;rw[G]at hu;split at h
    .rename_i j hj;split at h
     .rename_i hc;obtain⟨rfl,hz,O,al⟩:=hc
      cases hx with
      | buf _ _ _ _ e2 U Z an A l c D Y M =>
       rw[hk]at D;cases D;obtain⟨hA,rfl,hcap,X⟩:=M O;obtain⟨inf,q1,q2,q3,q4,R,S⟩:=Q.info e' j hj;by_cases n:l=0
       .subst n;rw[if_pos rfl]at h;cases h;refine⟨.tuple #[],s,?_,rfl,L,Step.refl s,.tup [] #[] rfl ζ⟩;cases A<;>simp[Builtin.clear_,run_underlying hu]
       .rw[if_neg n]at h;cases h;obtain⟨vs,F,g3,g4,g5,g6,g7⟩:=L.blk k _ hk
        have f:s.κ k≠0:=by omega
        have hA:=hA f;subst hA;have F:=F f;have K:Rel s j.zero j.zval:=dp R;have E:=io R;obtain⟨z1,U,z3⟩:=K.cells E
        have a:j.zval.cells.size=j.size:=by rw[z1,S]
        have b:(Builtin.zeroCells j.zval.cells l).size=l*j.size:=by simp[Builtin.zeroCells,a]
        have y:∀i,i<l*j.size->(Builtin.zeroCells j.zval.cells l)[i]?=j.zval.cells[i % j.size]?:=fun i hi=>by
         have:i % j.size<j.zval.cells.size:=by rw[a];exact xU _ hz
         rw[vZ this,<-getElem!_pos j.zval.cells _ this];simp[Builtin.zeroCells,a,hi]
        have hF:FRow s j.size (tg l j.zero) (Builtin.zeroCells j.zval.cells l).toList.toArray:=by
         refine⟨by simp[b],fun x hx=>?_,fun i x I d u hx G C=>?_⟩
         .rw[vn hx];exact⟨S,by simpa using E⟩
         .have J:=vn (tn hx);subst J
          have hi:i<l:=by have:=aB hx;simpa using this
          have ad:=aB G;have hb:(i+1)*j.size<=l*j.size:=uI _ ω;rw[uR]at hb;rw[Array.toArray_toList,y _ ω,show(i*j.size+I) % j.size=I by rw[wG,xo];exact xN ω]at C;exact U I d u G C
        have q:∀v∈(Builtin.zeroCells j.zval.cells l).toList,v.oneCell'=true:=fun v hv=>by
         obtain⟨i,hi⟩:=wJ hv;have g:=aB hi;simp only[vV,b]at g;rw[vJ,y i g]at hi;exact z3 v (by simpa using Array.mem_of_getElem? hi)
        have hb:(off+l)*j.size<=s.κ k*j.size:=uI _ ω;rw[uR]at hb;have p:=run_storeCells_at (P:=P) (s.φ k) (off*j.size) e (Builtin.zeroCells j.zval.cells l).toList 0 vs s.w F (by simp only[vV,b];omega) q;simp only[vk]at p;obtain⟨f1,f2⟩:=fill_row (o:=off) L hk f hF χ F _ rfl;refine⟨.tuple #[],_,?_,rfl,f1,f2,.tup [] #[] rfl ζ⟩
        have N:∀w,(zeroValue e').run P w = .ok j.zval w:=fun w=>by simp[zeroValue,typeInfo,q1,q4]
        obtain⟨m,rfl⟩:∃m,l=m+1:=⟨l-1,ω⟩;simp only[Builtin.clear_,Sem.run_bind,Sem.run_pure,Result.andThen_ok,List.getElem?_toArray,vI,run_underlying hu,N,p];rfl
     .cases h
    .cases h
   .cases h
  .cases h
 .cases h
end
end Go.AM
namespace Go.AM
open Go
def kkOf(T:Ty)(t:TypeId):Option (KK×TypeId):=
 match T t with
 | some i=>match i.desc with
  | .map k e=>match T k with
   | some a=>match a.kk with
    | some kk=>some (kk,e)
    | none=>none
   | none=>none
  | _=>none
 | none=>none
def ry(T:Ty)(H:List B)(t:TypeId):Option (V×List B):=
 match kkOf T t with
 | some (kk,_)=>some (.map H.length,H++[.map kk []])
 | none=>none
def okRes(c:Bool)(v:V)(ok:Bool):V:=if c then .tup [v,.bool ok] else v
def qm(T:Ty)(H:List B)(t:TypeId)(m k:V)(c:Bool):Option V :=
 match kkOf T t with
 | some (kk,e)=>match T e with
  | some j=>if aq k=some kk then
    match m with
    | .nilM=>some (okRes c j.zero false)
    | .map r=>match H[r]? with
     | some (.map kk' es)=>if kk'=kk then
       match cd k es 0 with
       | some (_,v)=>some (okRes c v true)
       | none=>some (okRes c j.zero false)
      else none
     | _=>none
    | _=>none
   else none
  | none=>none
 | none=>none
def putA(k v:V)(es:List (V×V)):List (V×V):=
 match cd k es 0 with
 | some (i,_)=>es.set i (k,v)
 | none=>es++[(k,v)]
def gY(T:Ty)(H:List B)(t:TypeId)(m k v:V):Option (List B):=
 match kkOf T t with
 | some (kk,_)=>if aq k=some kk then
   match m with
   | .map r=>match H[r]? with
    | some (.map kk' es)=>if kk'=kk then some (H.set r (.map kk (putA k v es))) else none
    | _=>none
   | _=>none
  else none
 | none=>none
def ba_beq(a b:ByteArray):(a == b)=true↔a=b:=by
 cases a;cases b;rename_i x y;show(x == y)=true↔_;simp
section
variable {P:Program} {T:Ty} {s:St}
theorem eqIs_val:∀{cs ds:List V},ke cs ds=true->cs.all jk=true->ds.all jk=true->cs.map fF=ds.map fF
 | [],[],_,_,_=>rfl
 | [],_::_,h,_,_=>by simp[ke]at h
 | c::cs,[],h,_,_=>by cases c<;>simp[ke]at h
 | c::cs,d::ds,h,h1,h2=>by
  simp only[vE,tt]at h1 h2;obtain⟨h1,f⟩:=h1;obtain⟨h2,e⟩:=h2
  cases c<;>simp only[jk]at h1<;>try (cases h1;done)
  rename_i k a
  cases d<;>simp only[jk]at h2<;>try (cases h2;done)
  rename_i k' b;simp only[ke,tt,beq_iff_eq]at h;obtain⟨rfl,h⟩:=h;rw[vW,vW,eqIs_val h f e]
  cases k<;>simp only at h1<;>try (cases h1;done)
  cases k'<;>simp only at h2<;>try (cases h2;done)
  rfl
def nk{cs:List V}{kk:KK}(h:aq (.agg cs)=some kk):cs.all jk=true:=by
 simp only[aq]at h;split at h
 .assumption
 .cases h
def keyEq_val{v k:V}{kk:KK}(h:au v k=true)(h1:aq v=some kk)(h2:aq k=some kk):dZ v=dZ k:=by
 cases v<;>cases k<;>simp only[au]at h<;>try (cases h;done)
 case int.int k a k' b=>simp only[aq,Option.some.injEq]at h1 h2;subst h1;cases h2;simp at h;subst h;rfl
 case str.str a b=>rw[ba_beq]at h;subst h;rfl
 case bool.bool a b=>simp at h;subst h;rfl
 case agg.agg cs ds=>simp only[dZ];rw[eqIs_val h (nk h1) (nk h2)]
def key_val{v:V}{u:Value}{kk:KK}(h:Rel s v u)(hk:aq v=some kk):u=dZ v:=by
 cases h<;>simp only[aq]at hk<;>try (cases hk;done)
 case int=>rfl
 case str=>rfl
 case bool=>rfl
 case agg cs us hl h1 hr =>
  have ha:=nk hk;simp only[dZ];congr 1;apply Array.ext
  .simp[hl]
  .intro i f j
   have hi:i<cs.length:=by omega
   have e:cs[i]?=some cs[i]:=tm hi
   have hu:us[i]?=some us[i]:=by simp[f]
   have a:=hr i _ _ e hu
   have b:jk cs[i]=true:=by rw[uZ]at ha;exact ha _ (ti hi)
   generalize cs[i]=c at *
   have:us[i]=fF c:=by
    obtain⟨g,d⟩:∃g,us[i]=g:=⟨_,rfl⟩;rw[d]at a ⊢
    cases a<;>simp only[jk]at b<;>try (cases b;done)
    rfl
   rw[this];simp[List.getElem?_eq_some_iff]at e;obtain⟨_,rfl⟩:=e;simp
theorem sW(k:V):∀(es:List (V×V)) (n:Nat),(cd k es n=none/\∀p∈es,au k p.1=false)\/
  ∃i p,cd k es n=some (n+i,p.2)/\es[i]?=some p/\au k p.1=true/\∀j a,j<i->es[j]?=some a->au k a.1=false
 | [],n=>.inl ⟨rfl,ζ⟩
 | p::es,n=>by
  cases h:au k p.1
  .rcases sW k es (n+1) with⟨h1,h2⟩ | ⟨i,q,h1,h2,c,d⟩
   .exact .inl ⟨by simp[cd,h,h1],fun q hq=>(List.mem_cons.1 hq).elim (fun e=>by rw[e];exact h) (h2 q)⟩
   .refine .inr ⟨i+1,q,by simp[cd,h,h1];omega,by simpa using h2,c,fun j a b hp=>?_⟩
    cases j with
    | zero=>simp at hp;subst hp;exact h
    | succ j=>exact d j a ω (by simpa using hp)
  .exact .inr ⟨0,p,by simp[cd,h],rfl,h,fun j _ b=>absurd b ω⟩
def kkOf_spec(c:TOk P T){t e:TypeId}{kk:KK}(h:kkOf T t=some (kk,e)):∃k,P.underlying t=some (.map k e)/\KLaw P k kk:=by
 unfold kkOf at h;split at h
 .rename_i i hi;split at h
  .rename_i k e' d;have hu:=c.und t i hi;rw[d]at hu;split at h
   .rename_i f a;split at h
    .rename_i g b;cases h;exact⟨k,hu,c.key k f kk a b⟩
    .cases h
   .cases h
  .cases h
 .cases h
def sT(y:Good s){r:Nat}{kk:KK}{es:List (V×V)}(hr:s.H[r]?=some (.map kk es)){t:TypeId}(L:KLaw P t kk){k:V}(hk:aq k=some kk):
  ∃(ms:Array MapEntry) (cl:Nat),s.w.heap[s.φ r]?=some (.map ms cl)/\ms.size=es.length/\(∀(i:Nat) p m,es[i]?=some p->ms[i]?=some m->Rel s p.1 m.key/\Rel s p.2 m.val/\m.key=dZ p.1)/\
   ((cd k es 0=none/\(Instr.findKey t (dZ k) ms.toList).run P s.w = .ok none s.w)\/
    ∃i p m,cd k es 0=some (i,p.2)/\es[i]?=some p/\ms[i]?=some m/\au k p.1=true/\(Instr.findKey t (dZ k) ms.toList).run P s.w = .ok (some (i,m.val)) s.w):=by
 obtain⟨h1,ms,cl,h2,j,q⟩:=y.blk r _ hr
 have b:∀(i:Nat) p m,es[i]?=some p->ms[i]?=some m->m.key=dZ p.1:=fun i p m hp hm=>key_val (q i p m hp hm).1 (h1 p (tn hp))
 refine⟨ms,cl,h2,j,fun i p m hp hm=>⟨(q i p m hp hm).1,(q i p m hp hm).2,b i p m hp hm⟩,?_⟩
 have g:ms.toList.map (·.key)=(es.map (·.1)).map dZ:=by
  apply uw;intro i;simp only[uK,vJ];by_cases hi:i<es.length
  .have v:es[i]?=some es[i]:=tm hi
   have f:ms[i]?=some (ms[i]'ω):=by simp[j,hi]
   rw[v,f];simp only[uS,b i _ _ v f]
  .rw[un ω,ww ω];rfl
 obtain⟨B,a,c⟩:=L.find s.w k (es.map (·.1)) ms.toList hk (fun x hx=>by obtain⟨p,hp,rfl⟩:=List.mem_map.1 hx;exact h1 p hp) g
 rcases sW k es 0 with⟨f1,f2⟩ | ⟨i,p,f1,f2,f3,f4⟩
 .left;refine⟨f1,?_⟩
  rcases c with⟨rfl,_⟩ | ⟨i,k',e,rfl,q1,_,d,_⟩
  .exact a
  .simp only[uK,vd]at q1;obtain⟨p,hp,rfl⟩:=q1;rw[f2 p (tn hp)]at d;cases d
 .right;rw[vD]at f1;have hi:=aB f2
  have f:ms[i]?=some (ms[i]'ω):=by simp[j,hi]
  refine⟨i,p,_,f1,f2,f,f3,?_⟩
  rcases c with⟨rfl,o⟩ | ⟨l,k',e,rfl,q1,u,d,z⟩
  .rw[o p.1 (List.mem_map.2 ⟨p,tn f2,rfl⟩)]at f3;cases f3
  .simp only[uK,vd]at q1;obtain⟨A,n,rfl⟩:=q1
   have:i=l:=by
    rcases ve i l with h | h | h
    .rw[z i p.1 h (by simp[f2])]at f3;cases f3
    .exact h
    .rw[f4 l A h n]at d;cases d
   subst this
   have:e=ms[i]'ω:=by rw[vJ,f]at u;cases u;rfl
   subst this;exact a
def pB{c ok:Bool}{v:V}{u:Value}(h:Rel s v u):Rel s (okRes c v ok) (if c then .tuple #[u,.bool ok] else u):=by
 unfold okRes;cases c
 .exact h
 .refine .tup _ _ rfl (fun i x w hx a=>?_)
  match i with
  | 0=>simp at hx a;subst hx;subst a;exact h
  | 1=>simp at hx a;subst hx;subst a;exact .bool _
  | n+2=>simp at hx
def lookup_sound(g:TOk P T)(B:Good s){t:TypeId}{m k r:V}{q x:Value}{c:Bool}(hm:Rel s m q)(hk:Rel s k x)(h:qm T s.H t m k c=some r):
  ∃u,(Instr.lookup t q x c).run P s.w = .ok u s.w/\Rel s r u:=by
 unfold qm at h;split at h
 .rename_i kk e l;obtain⟨K,hu,L⟩:=kkOf_spec g l;split at h
  .rename_i j n;obtain⟨inf,q1,D,I,E,v,J⟩:=g.info e j n;split at h
   .rename_i a;have o:=key_val hk a;subst o;split at h
    .cases hm;cases h;have hf:=L.find s.w k [] [] a ζ rfl;obtain⟨y,b,d⟩:=hf
     have:y=none:=by
      rcases d with⟨h,_⟩ | ⟨i,k',e',_,h2,_⟩
      .exact h
      .simp at h2
     subst this;refine⟨_,?_,pB (dp v)⟩;simp[Instr.lookup,run_underlying hu,L.check _ _ k a,b,iR g n]
    .rename_i F;split at h
     .rename_i A es hr;split at h
      .rename_i f;subst f;cases hm;obtain⟨ms,cl,h2,G,z,hf⟩:=sT B hr L a
       rcases hf with⟨f1,f2⟩ | ⟨i,p,C,f1,f2,f3,f4,f5⟩
       .rw[f1]at h;cases h;refine⟨_,?_,pB (dp v)⟩;simp[Instr.lookup,run_underlying hu,MapKept.run_getObj_map h2,L.check _ _ k a,f2,iR g n]
       .rw[f1]at h;cases h;refine⟨_,?_,pB (z i p C f2 f3).2.1⟩;simp[Instr.lookup,run_underlying hu,MapKept.run_getObj_map h2,L.check _ _ k a,f5]
      .cases h
     .cases h
    .cases h
   .cases h
  .cases h
 .cases h
def sameBits_val{v:V}{kk:KK}(h:aq v=some kk):Instr.sameBits 10000 (dZ v) (dZ v)=true:=by
 cases v<;>simp only[aq]at h<;>try (cases h;done)
 case int=>simp[dZ,fF,Instr.sameBits]
 case str=>simp only[dZ,fF,Instr.sameBits];exact(ba_beq _ _).2 rfl
 case bool=>simp[dZ,fF,Instr.sameBits]
 case agg cs =>
  have ha:=nk h;simp only[dZ,Instr.sameBits];simp only[beq_self_eq_true,uF,uZ];intro p hp
  have b:∃c∈cs,p=(fF c,fF c):=by
   clear h ha
   induction cs with
   | nil=>simp at hp
   | cons c cs d =>
    simp only[vW,List.zip_cons_cons,tw]at hp
    rcases hp with rfl | hp
    .exact⟨c,ζ,rfl⟩
    .obtain⟨c',h1,h2⟩:=d hp;exact⟨c',by simp[h1],h2⟩
  obtain⟨c,e,rfl⟩:=b;have a:=List.all_eq_true.1 ha c e
  cases c<;>simp only[jk]at a<;>try (cases a;done)
  simp[fF,Instr.sameBits]
def ji(M:TOk P T)(x:Good s){t:TypeId}{m k v:V}{J r C:Value}{H':List B}(hm:Rel s m J)(hk:Rel s k r)(hv:Rel s v C)(h:gY T s.H t m k v=some H'):
  ∃s',(Instr.mapUpdate t J r C).run P s.w = .ok () s'.w/\s'.H=H'/\Good s'/\Step s s':=by
 unfold gY at h;split at h
 .rename_i kk e E;obtain⟨N,hu,L⟩:=kkOf_spec M E;split at h
  .rename_i a;have l:=key_val hk a;split at h
   .rename_i g;split at h
    .rename_i z es hr;split at h
     .rename_i A;subst A;cases h;cases hm;obtain⟨h0,_⟩:=x.blk g _ hr;obtain⟨ms,cl,h2,I,y,hf⟩:=sT x hr L a;have D:=(Array.getElem?_eq_some_iff.1 h2).1
      have d:∀o b,b<s.w.heap.size->b≠s.φ g->({ s.w with heap:=s.w.heap.setIfInBounds (s.φ g) o } : World).heap[b]?=s.w.heap[b]?:=fun o b _ G=>by
       show(s.w.heap.setIfInBounds _ _)[b]?=_;rw[wW (Ne.symm G)]
      have n:∀o,({ s.w with heap:=s.w.heap.setIfInBounds (s.φ g) o } : World).heap[s.φ g]?=some o:=fun o=>by
       show(s.w.heap.setIfInBounds _ _)[_]?=_;simp[D]
      rcases hf with⟨f1,f2⟩ | ⟨i,p,K,f1,f2,f3,f4,f5⟩
      .have f:putA k v es=es++[(k,v)]:=by unfold putA;rw[f1]
       rw[f];refine⟨s.setB { s.w with heap:=s.w.heap.setIfInBounds (s.φ g) (.map (ms.push { key:=r,val:=C,born:=cl }) (cl+1)) } g (.map z (es++[(k,v)])),?_,rfl,?_,bj x hr (lvM hr) rfl rfl rfl rfl ζ (d _)⟩
       .rw[l]at *;simp[Instr.mapUpdate,run_underlying hu,MapKept.run_getObj_map h2,L.check _ _ k a,f2,MapKept.run_setObj_map _ h2,St.setB]
       .refine bw x hr (lvM hr) rfl rfl rfl rfl ζ (d _) (fun c=>?_);refine⟨fun q hq=>?_,_,_,n _,by simp[I],fun i q m hq hm=>?_⟩
        .rcases List.mem_append.1 hq with h | h
         .exact h0 q h
         .simp at h;subst h;exact a
        .by_cases hi:i<es.length
         .rw[tu hi]at hq;rw[Array.getElem?_push,if_neg ω]at hm;exact⟨(y i q m hq hm).1.step c,(y i q m hq hm).2.1.step c⟩
         .have u:=aB hq;simp at u
          obtain rfl:i=es.length:=by omega
          rw[uD ω]at hq;rw[Array.getElem?_push,if_pos ω]at hm;simp at hq hm;subst hq;subst hm;exact⟨hk.step c,hv.step c⟩
      .have f:putA k v es=es.set i (k,v):=by unfold putA;rw[f1]
       rw[f]
       have hold:K.key=r:=by rw[(y i p K f2 f3).2.2,l];exact(keyEq_val f4 a (h0 p (tn f2))).symm
       have u:=aB f2;refine⟨s.setB { s.w with heap:=s.w.heap.setIfInBounds (s.φ g) (.map (ms.modify i fun e=>{ e with key:=r,val:=C }) cl) } g (.map z (es.set i (k,v))),?_,rfl,?_,bj x hr (lvM hr) rfl rfl rfl rfl ζ (d _)⟩
       .have c:(Instr.keyThatStays r r).run P s.w = .ok r s.w:=by unfold Instr.keyThatStays;rw[l,sameBits_val a];simp
        rw[l]at c hold ⊢;simp[Instr.mapUpdate,run_underlying hu,MapKept.run_getObj_map h2,L.check _ _ k a,f5,f3,hold,c,MapKept.run_setObj_map _ h2,St.setB]
       .refine bw x hr (lvM hr) rfl rfl rfl rfl ζ (d _) (fun c=>?_);refine⟨fun q hq=>?_,_,_,n _,by simp[I],fun j q m hq hm=>?_⟩
        .rcases vj hq with h | rfl
         .exact h0 q h
         .exact a
        .rw[xC]at hm;by_cases F:i=j
         .subst F;rw[uJ u]at hq;rw[if_pos rfl,f3]at hm;cases hq;cases hm;exact⟨hk.step c,hv.step c⟩
         .rw[uH F]at hq;rw[if_neg F]at hm;exact⟨(y j q m hq hm).1.step c,(y j q m hq hm).2.1.step c⟩
     .cases h
    .cases h
   .cases h
  .cases h
 .cases h
end
end Go.AM
end
