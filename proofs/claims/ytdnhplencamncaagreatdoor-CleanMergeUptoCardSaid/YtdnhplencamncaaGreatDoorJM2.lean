/- JM2: own texts of this seat, joined and shortened by pack4.py: AMb. -/
import Derived.Test.YtdnhplencamncaaGreatDoorJM1
import Derived.Deep.Upon
set_option linter.unusedVariables false
set_option linter.unusedSimpArgs false
set_option maxRecDepth 100000
set_option maxHeartbeats 64000000
open Array renaming getElem?_toList→pV,getElem?_append→pd,length_toList→ph,getElem?_eq_getElem→pn,getElem?_setIfInBounds_ne→qJ,size_append→qN,getElem?_eq_none→qX
open Bool renaming and_eq_true→oP,true_and→pE
open List renaming replicate→oE,getElem?_eq_getElem→oG,mem_of_getElem?→oH,getElem_mem→oI,getElem?_append_left→oL,range→oM,getElem?_set_ne→oQ,mem_cons→oR,getElem?_append_right→oS,length_append→oT,append_nil→oU,length_map→oW,getElem?_set_self→oX,getElem?_map→oc,length_cons→og,map_cons→oq,getElem?_take→pD,nil_append→pH,getElem?_eq_none→pK,getElem?_cons_succ→pL,getElem?_drop→pP,mem_of_mem_take→pQ,all_eq_true→pR,ext_getElem?→pT,eq_nil_of_length_eq_zero→pX,take_append_drop→pc,eq_of_mem_replicate→pi,mem_of_mem_drop→pq,mem_or_eq_of_mem_set→pu,length_nil→qD,getElem?_cons_zero→qI,getElem?_of_mem→qU,flatMap_cons→qh,getElem?_toArray→qk,size_toArray→rP,all_cons→rh
open Nat renaming le_refl→oJ,mul_le_mul_right→ol,lt_of_lt_of_le→om,add_mul→ov,zero_add→pI,lt_or_ge→pS,add_assoc→pm,zero_mul→pz,min_eq_left→qE,add_zero→qH,mul_comm→qr,lt_trichotomy→rQ,mod_eq_of_lt→rZ,mul_add_mod→rj,mod_lt→ro
open Option renaming map_some→pB,map_eq_some_iff→po
section
namespace Go.AM
open Go
def bP(x:Option V)(d:Nat):Option Nat :=
 match x with
 | none=>some d
 | some (.int _ n)=>if 0≤n then some n.toNat else none
 | _=>none
def sliceA(T:Ty)(H:List B)(t:TypeId)(x:V)(lo hi mx:Option V):Option V :=
 match T t with
 | none=>none
 | some it=>match it.desc,x with
  | .string,.str st=>match mx,bP lo 0,bP hi st.size with
   | none,some l,some h=>if l≤h∧h≤st.size then some (.str (st.extract l h)) else none
   | _,_,_=>none
  | .slice e,.nilS=>match bP lo 0,bP hi 0,bP mx 0 with
   | some l,some h,some m=>if l=0∧h=0∧m=0∧(mx.isNone||hi.isSome)=true∧(T e).isSome=true then some .nilS else none
   | _,_,_=>none
  | .slice e,.lst z full xs=>match T e,bP lo 0,bP hi xs.length with
   | some j,some l,some h=>if z=j.size∧l≤h∧h≤xs.length then
     match mx with
     | none=>some (.lst z (full&&h == xs.length) ((xs.take h).drop l))
     | some m=>match bP (some m) 0 with
      | some m'=>if m'=h∧hi.isSome=true then some (.lst z true ((xs.take h).drop l)) else none
      | none=>none
    else none
   | _,_,_=>none
  | .slice e,.buf k off len tot=>match H[k]? with
   | some (.buf _ z xs _)=>match T e,bP lo 0,bP hi len with
    | some j,some l,some h=>if xs.length=tot∧z=j.size∧l≤h∧(h≤len∨off+h≤tot) then
      match mx with
      | none=>if l=h then(if l=0 then some (.buf k off 0 tot) else some (.lst z false [])) else some (.buf k (off+l) (h-l) tot)
      | some m=>match bP (some m) 0 with
       | some m'=>if l=h∧m'=h∧hi.isSome=true then some (.lst z true []) else if h≤m'∧off+m'≤tot∧hi.isSome=true then some .undef else none
       | none=>none
     else none
    | _,_,_=>none
   | _=>none
  | .array n e,.ptr k off=>match T e,H[k]?,lo,hi,mx with
   | some j,some (.cells cs),none,none,none=>if off=0∧n=cs.length∧j.size=1∧0<n then some (.sarr k n) else none
   | _,_,_,_,_=>none
  | _,_=>none
section
variable {P:Program} {T:Ty} {s:St}
def gz(s:St)(x:Option V)(u:Option Value):Prop :=
 match x,u with
 | none,none=>True
 | some v,some w=>Rel s v w
 | _,_=>False
theorem ct{v:V}{u:Value}{n:Nat}{d y:Nat}{code:BoundsCode}(hv:Rel s v u)(h:bP (some v) d=some n)(hy:n≤y)(w:World):(Instr.sliceBound u y code).run P w = .ok n w:=by
 unfold bP at h
 cases hv<;>simp only at h<;>try (cases h;done)
 rename_i k i;split at h
 ·rename_i h0;cases h;simp[Instr.sliceBound,asIntOf,h0,show i≤(y:Int) by omega]
 ·cases h
theorem ce{lo hi mx:Option V}{ulo uhi umx:Option Value}(hlo:gz s lo ulo)(hhi:gz s hi uhi)(hmx:gz s mx umx){isS:Bool}{len cap l h m d:Nat}
  (h1:bP lo 0=some l) (h2:bP hi len=some h) (h3:bP mx cap=some m) (hd:mx=none∨hi.isSome=true) (hlh:l≤h) (hhm:h≤m) (hmc:m≤cap) (_hd:d=0) (w:World):
  (Instr.sliceBounds isS len cap ulo uhi umx).run P w = .ok (l,h,m) w:=by
 cases mx<;>cases umx<;>simp only[gz]at hmx
 ·simp only[bP,Option.some.injEq]at h3;subst h3;cases hi<;>cases uhi<;>simp only[gz]at hhi
  ·simp only[bP,Option.some.injEq]at h2;subst h2;cases lo<;>cases ulo<;>simp only[gz]at hlo
   ·simp only[bP,Option.some.injEq]at h1;subst h1;simp[Instr.sliceBounds]
   ·simp[Instr.sliceBounds,ct hlo h1 hlh]
  ·cases lo<;>cases ulo<;>simp only[gz]at hlo
   ·simp only[bP,Option.some.injEq]at h1;subst h1;simp[Instr.sliceBounds,ct hhi h2 hhm]
   ·simp[Instr.sliceBounds,ct hhi h2 hhm,ct hlo h1 hlh]
 ·have hm:=fun code=>ct (P:=P) (y:=cap) (code:=code) hmx h3 hmc w
  cases hi<;>cases uhi<;>simp only[gz]at hhi
  ·simp at hd
  ·cases lo<;>cases ulo<;>simp only[gz]at hlo
   ·simp only[bP,Option.some.injEq]at h1;subst h1;simp[Instr.sliceBounds,hm,ct hhi h2 hhm]
   ·simp[Instr.sliceBounds,hm,ct hhi h2 hhm,ct hlo h1 hlh]
theorem kr{x:Option V}{d d' n:Nat}(h:bP x d=some n)(hx:x.isSome=true):bP x d'=some n:=by
 cases x with
 | none=>cases hx
 | some v=>cases v<;>exact h
theorem lst_cut{z:Nat}{full full':Bool}{xs:List V}{A:Option Addr}{cap l h m:Nat}(hx:Rel s (.lst z full xs) (.slice A xs.length cap))(h1:l≤h)(h2:h≤xs.length)(h3:h≤m)(hf:full'=true→m=h):
  Rel s (.lst z full' ((xs.take h).drop l)) (.slice (if m=l then A else A.map (·.add (l*z))) (h-l) (m-l)):=by
 cases hx with
 | lst _ _ _ _ _ b off u hcap hfull hA hz hcell hrel =>
  have hlen:((xs.take h).drop l).length=h-l:=by simp;omega
  have hat:∀i x,((xs.take h).drop l)[i]?=some x→xs[l+i]?=some x:=fun i x hi=>by
   have hil:=aB hi;rw[pP,pD,if_pos (by omega)]at hi;exact hi
  have:=Rel.lst (s:=s) z full' ((xs.take h).drop l) (if m=l then A else A.map (·.add (l*z))) (m-l) b (off+l*z) (fun i j=>u (l+i) j) (by omega) (fun hf'=>by rw[hlen,hf hf']) (fun h0=>by
    rw[hlen]at h0;obtain⟨rfl,hp⟩:=hA (by omega);rw[if_neg (by omega)]
    exact⟨by simp[bd],hp⟩) (fun x hx=>hz x (pQ (pq hx)))
   (fun i x j c hi hc=>by
    have:=hcell (l+i) x j c (hat i x hi) hc
    rwa [ov,←pm]at this)
   (fun i x j c hi hc=>hrel (l+i) x j c (hat i x hi) hc)
  rwa [hlen]at this
theorem slice_sound(hT:TOk P T)(hg:Good s){t:TypeId}{x r:V}{ux:Value}{lo hi mx:Option V}{ulo uhi umx:Option Value}(hx:Rel s x ux)(hlo:gz s lo ulo)(hhi:gz s hi uhi)(hmx:gz s mx umx)
  (h:sliceA T s.H t x lo hi mx=some r):∃u,(Instr.sliceAt t ux ulo uhi umx).run P s.w = .ok u s.w∧Rel s r u:=by
 unfold sliceA at h;split at h
 ·cases h
 ·rename_i it hit;have hu:=hT.und t it hit;generalize it.desc=d at hu h;split at h
  ·
   rename_i st;split at h
   ·rename_i l hh e1 e2;split at h
    ·rename_i hc;cases h;cases hx;cases umx<;>simp only[gz]at hmx;have hb:=ce (P:=P) (isS:=false) (len:=st.size) (cap:=st.size) (d:=0) hlo hhi (mx:=none) (umx:=none) trivial e1 e2 rfl (.inl rfl) hc.1 hc.2 (oJ _) rfl s.w;exact⟨.string (st.extract l hh),by simp[Instr.sliceAt,Instr.slice,run_underlying hu,hb],.str _⟩
    ·cases h
   ·cases h
  ·
   rename_i e;split at h
   ·rename_i l hh m e1 e2 e3;split at h
    ·rename_i hc;obtain⟨rfl,rfl,rfl,hd,hTe⟩:=hc;cases h;cases hx;obtain⟨j,hj⟩:=Option.isSome_iff_exists.1 hTe;have hb:=ce (P:=P) (isS:=true) (len:=0) (cap:=0) (d:=0) hlo hhi hmx e1 e2 e3 (by simpa using hd) (oJ _) (oJ _) (oJ _) rfl s.w;exact⟨.slice none 0 0,by simp[Instr.sliceAt,Instr.slice,run_underlying hu,hb,run_sizeOf hT hj],.nilS⟩
    ·cases h
   ·cases h
  ·
   rename_i e z full xs;split at h
   ·rename_i j l hh hj e1 e2;split at h
    ·rename_i hc;obtain⟨hz,hlh,hhx⟩:=hc
     obtain⟨A,cap,rfl⟩:∃A cap,ux = .slice A xs.length cap:=by cases hx;exact⟨_,_,rfl⟩
     have hcap:xs.length≤cap∧(full=true→cap=xs.length):=by cases hx;exact⟨by assumption,by assumption⟩
     split at h
     ·cases h;cases umx<;>simp only[gz]at hmx;have hb:=ce (P:=P) (isS:=true) (len:=xs.length) (cap:=cap) (d:=0) hlo hhi (mx:=none) (umx:=none) trivial e1 e2 rfl (.inl rfl) hlh (by omega) (oJ _) rfl s.w;refine⟨_,by simp[Instr.sliceAt,Instr.slice,run_underlying hu,hb,run_sizeOf hT hj];rfl,?_⟩;rw[←hz];exact lst_cut hx hlh hhx (by omega) (fun hf=>by simp at hf;have:=hcap.2 hf.1;omega)
     ·rename_i m;split at h
      ·rename_i m' em;split at h
       ·rename_i hmh;obtain⟨rfl,hhs⟩:=hmh;cases h;have hb:=ce (P:=P) (isS:=true) (len:=xs.length) (cap:=cap) (d:=0) hlo hhi hmx e1 e2 (kr em rfl) (.inr hhs) hlh (oJ _) (by omega) rfl s.w;refine⟨_,by simp[Instr.sliceAt,Instr.slice,run_underlying hu,hb,run_sizeOf hT hj];rfl,?_⟩;rw[←hz];exact lst_cut hx hlh hhx (oJ _) (fun _=>rfl)
       ·cases h
      ·cases h
    ·cases h
   ·cases h
  ·
   rename_i e k off len tot
   cases hx with
   | buf _ _ _ _ e' z xs fz A cl c hk ht hh =>
    rw[hk]at h;simp only at h;split at h
    ·rename_i j l h' hj e1 e2;split at h
     ·rename_i hc;obtain⟨hxt,hz,hlh,hhl⟩:=hc;obtain⟨hA,rfl,hcap,hoff⟩:=hh hxt.symm
      have hkap:xs.length≤s.κ k:=by obtain⟨_,_,_,h4,_⟩:=hg.blk k _ hk;exact h4
      have hhc:h'≤c:=by omega
      split at h
      ·cases umx<;>simp only[gz]at hmx;have hb:=ce (P:=P) (isS:=true) (len:=cl) (cap:=c) (d:=0) hlo hhi (mx:=none) (umx:=none) trivial e1 e2 rfl (.inl rfl) hlh (by omega) (oJ _) rfl s.w;split at h
       ·rename_i hl;subst hl;split at h
        ·rename_i hl0;subst hl0;cases h;refine⟨.slice (if c=0 then A else A.map (·.add (0*z))) 0 c,?_,.buf k off 0 tot e' z xs fz _ _ _ hk ht (fun _=>⟨fun h0=>by rw[hA h0];split<;>simp[bd],rfl,by omega,by omega⟩)⟩;simp[Instr.sliceAt,Instr.slice,run_underlying hu,hb,run_sizeOf hT hj,hz]
        ·cases h;refine⟨_,by simp[Instr.sliceAt,Instr.slice,run_underlying hu,hb,run_sizeOf hT hj];rfl,?_⟩;exact bw _ false _ _ (by simp)
       ·rename_i hl;cases h;have hA:=hA (by omega);subst hA;refine⟨.slice (some ⟨s.φ k,(off+l)*z,none⟩) (h'-l) (c-l),?_,.buf k (off+l) (h'-l) tot e' z xs fz _ _ _ hk ht (fun _=>⟨fun _=>rfl,rfl,by omega,by omega⟩)⟩;simp[Instr.sliceAt,Instr.slice,run_underlying hu,hb,run_sizeOf hT hj,show ¬(c=l) by omega,bd,ov,hz]
      ·rename_i m;split at h
       ·rename_i m' em;split at h
        ·rename_i hcc;obtain⟨rfl,rfl,hhs⟩:=hcc;cases h;have hb:=ce (P:=P) (isS:=true) (len:=cl) (cap:=c) (d:=0) hlo hhi hmx e1 e2 (kr em rfl) (.inr hhs) (oJ _) (oJ _) (by omega) rfl s.w;refine⟨_,by simp[Instr.sliceAt,Instr.slice,run_underlying hu,hb,run_sizeOf hT hj];rfl,?_⟩;exact bw _ true _ _ (fun _=>rfl)
        ·split at h
         ·rename_i hcc;obtain⟨hm1,hm2,hhs⟩:=hcc;cases h;have hb:=ce (P:=P) (isS:=true) (len:=cl) (cap:=c) (d:=0) hlo hhi hmx e1 e2 (kr em rfl) (.inr hhs) hlh hm1 (by omega) rfl s.w;exact⟨_,by simp[Instr.sliceAt,Instr.slice,run_underlying hu,hb,run_sizeOf hT hj];rfl,.undef _⟩
         ·cases h
       ·cases h
     ·cases h
    ·cases h
  ·
   rename_i n e k off;split at h
   ·rename_i j cs hj hk;split at h
    ·rename_i hc;obtain⟨rfl,rfl,hz,hpos⟩:=hc;cases h
     cases hx with
     | ptr _ _ cs' hk' =>
      cases ulo<;>cases uhi<;>cases umx<;>simp only[gz]at hlo hhi hmx;refine⟨.slice (some ⟨s.φ k,0,none⟩) cs.length cs.length,?_,.sarr k _ cs hk⟩;simp[Instr.sliceAt,run_underlying hu,Instr.sureAddr,Instr.sliceBounds,run_sizeOf hT hj,bd]
    ·cases h
   ·cases h
  ·cases h
end
end Go.AM
namespace Go.AM
open Go
theorem bh(g:Nat)(e:TypeId):∀(news:List Value) (o:Nat) (vs:Array Value) (w:World),w.heap[g]?=some (.cells vs e (0,0))→o+news.length≤vs.size →
  w.setCells g o news=w.setRow g (vs.toList.take o++news++vs.toList.drop (o+news.length)).toArray
 | [],o,vs,w,hg,_=>by
  simp only[World.setCells,oU,qD,qH,pc,Array.toArray_toList];rw[setRow_self w g vs e (0,0) hg]
 | v::rest,o,vs,w,hg,hl=>by
  simp only[og]at hl;rw[World.setCells,setCell_eq_setRow w g o vs e (0,0) v hg,bh g e rest (o+1) (vs.setIfInBounds o v) _ (setRow_heap w g vs _ e _ hg) (by simp;omega),setRow_setRow];congr 2;have:=list_seg_step vs.toList o v rest (by simp;omega);simpa[Array.toList_setIfInBounds,pm] using this
def byteV(s:ByteArray):List V:=s.data.toList.map fun b=>V.int .u8 b.toNat
def srcA(H:List B)(z:Nat):V→Option (List V)
 | .nilS=>some []
 | .lst z' _ ys=>if z'=z then some ys else none
 | .buf k off len tot=>match H[k]? with
  | some (.buf _ z' xs _)=>if xs.length=tot∧z'=z then some ((xs.drop off).take len) else none
  | _=>none
 | .str st=>if z=1 then some (byteV st) else none
 | _=>none
def srcT:TypeDesc→V→Bool
 | .slice _,.str _=>false
 | .slice _,_=>true
 | .string,.str _=>true
 | _,_=>false
section
variable {P:Program} {T:Ty} {s:St}
theorem kO(hg:Good s){z:Nat}{tx:TypeId}{d:TypeDesc}{y:V}{uy:Value}{ys:List V}(hz:0<z)(hd:P.underlying tx=some d)(ht:srcT d y=true)(hy:Rel s y uy)(h:srcA s.H z y=some ys):
  ∃news:List Value,Src P z tx uy ys.length news s.w∧FRow s z ys news.toArray:=by
 cases hy<;>simp only[srcA]at h<;>try (cases h;done)
 case nilS =>
  cases h
  obtain⟨e',rfl⟩:∃e',d = .slice e':=by cases d<;>simp_all [srcT]
  exact⟨[],Src.ofNil s.w hd 0,⟨by simp,by simp,fun i x j c u hx=>by simp at hx⟩⟩
 case lst z' full xs A cap b off u hcap hfull hA hzz hcell hrel =>
  obtain⟨e',rfl⟩:∃e',d = .slice e':=by cases d<;>simp_all [srcT]
  split at h
  ·rename_i hzz';subst hzz';cases h;by_cases hx0:ys.length=0
   ·have:ys=[]:=pX hx0;subst this
    cases A with
    | none=>exact⟨[],Src.ofNil s.w hd cap,⟨by simp,by simp,fun i x j c u hx=>by simp at hx⟩⟩
    | some a=>exact⟨[],Src.ofSlice s.w hd a 0 cap [] (by simp) (fun j u h=>by simp at h) (by simp),⟨by simp,by simp,fun i x j c u hx=>by simp at hx⟩⟩
   ·obtain⟨rfl,hp⟩:=hA (by omega)
    have hat:∀m,m<ys.length*z'→m / z'<ys.length∧m % z'<z':=fun m hm=>⟨Nat.div_lt_of_lt_mul (by rw[qr];exact hm),ro _ hz⟩
    have hcell2:∀m,m<ys.length*z'→s.w.cell? ⟨b,off+m,none⟩=some (u (m / z') (m % z'))∧(u (m / z') (m % z')).oneCell'=true:=fun m hm=>by
     obtain⟨h1,h2⟩:=hat m hm;have hx:ys[m / z']?=some ys[m / z']:=oG h1;obtain⟨hl,ho⟩:=hzz _ (oI h1);have hc:(ys[m / z']).cells[m % z']?=some ((ys[m / z']).cells[m % z']'(by omega)):=oG (by omega);have e:=hcell _ _ _ _ hx hc;rw[show off+m / z'*z'+m % z'=off+m by rw[qr,pm,Nat.div_add_mod]]at e;exact⟨e,(hrel _ _ _ _ hx hc).oneCell (ho _ (oI _))⟩
    refine⟨(oM (ys.length*z')).map fun m=>u (m / z') (m % z'),Src.ofSlice s.w hd _ _ cap _ (by simp) (fun j x hj=>?_) (fun x hx=>?_),⟨by simp,hzz,fun i x j c w hx hc hw=>?_⟩⟩
    ·have hjl:=aB hj;simp at hjl;rw[bd,(hcell2 j hjl).1];simp[hjl]at hj;rw[←hj]
    ·obtain⟨m,hm,rfl⟩:=List.mem_map.1 hx;exact(hcell2 m (by simpa using hm)).2
    ·have hi:=aB hx;have hj:=aB hc;have hl:=(hzz x (oH hx)).1;have hb:(i+1)*z'≤ys.length*z':=ol _ (by omega);rw[ov]at hb
     have hlt:i*z'+j<ys.length*z':=by omega
     have e1:(i*z'+j) / z'=i:=by rw[qr,Nat.mul_add_div hz,Nat.div_eq_of_lt (by omega),qH]
     have e2:(i*z'+j) % z'=j:=by rw[qr,rj];exact rZ (by omega)
     simp[hlt,e1,e2]at hw;rw[←hw];exact hrel i x j c hx hc
  ·cases h
 case buf k off len tot e' z' xs fz A l c hk htot hh =>
  obtain⟨e2,rfl⟩:∃e',d = .slice e':=by cases d<;>simp_all [srcT]
  rw[hk]at h;simp only at h;split at h
  ·rename_i hc;obtain⟨hxt,hzz'⟩:=hc;subst hzz';cases h;obtain⟨hA,rfl,hcap,hoff⟩:=hh hxt.symm;obtain⟨vs,g2,g3,g4,g5,g6,g7⟩:=hg.blk k _ hk
   have hlen:((xs.drop off).take l).length=l:=by simp;omega
   have hat:∀i x,((xs.drop off).take l)[i]?=some x→xs[off+i]?=some x:=fun i x hi=>by
    have:=aB hi;rw[pD,if_pos (by omega),pP]at hi;exact hi
   have hb:(off+l)*z'≤s.κ k*z':=ol _ (by omega);rw[ov]at hb
   have hnl:((vs.toList.drop (off*z')).take (l*z')).length=l*z':=by simp;omega
   have hnews:∀j x,((vs.toList.drop (off*z')).take (l*z'))[j]?=some x→vs[off*z'+j]?=some x:=fun j x hj=>by
    have:=aB hj;rw[pD,if_pos (by omega),pP]at hj;simpa using hj
   have hrow:FRow s z' ((xs.drop off).take l) ((vs.toList.drop (off*z')).take (l*z')).toArray:=by
    refine⟨by simp only[rP,hnl,hlen],fun x hx=>g6 x (pq (pQ hx)),fun i x j d u hx hd hu=>?_⟩;have h1:=hnews (i*z'+j) u (by simpa using hu);rw[show off*z'+(i*z'+j)=(off+i)*z'+j by rw[ov];omega]at h1;exact g7 (off+i) x j d u (hat i x hx) hd h1
   refine⟨(vs.toList.drop (off*z')).take (l*z'),?_,hrow⟩;rw[hlen];by_cases hl0:l=0
   ·subst hl0
    have e0:(vs.toList.drop (off*z')).take (0*z')=[]:=by simp
    rw[e0]
    cases A with
    | none=>exact Src.ofNil s.w hd c
    | some a=>exact Src.ofSlice s.w hd a 0 c [] (by simp) (fun j x hj=>by simp at hj) (fun x hx=>by cases hx)
   have hκ:s.κ k≠0:=by omega
   have hA:=hA hκ;subst hA;have g2:=g2 hκ;refine Src.ofSlice s.w hd _ _ c _ hnl (fun j x hj=>?_) (fun x hx=>?_)
   ·rw[bd];have:=hnews j x hj;simp only[World.cell?,g2];simpa using this
   ·obtain⟨j,hj⟩:=qU hx;have hjl:=aB hj;rw[hnl]at hjl;have d1:j / z'<l:=Nat.div_lt_of_lt_mul (by rw[qr];exact hjl);have d2:j % z'<z':=ro _ hz;have hx':((xs.drop off).take l)[j / z']?=some (((xs.drop off).take l)[j / z']'(by omega)):=oG (by omega);obtain⟨hl2,ho2⟩:=hrow.el _ (oH hx');have hc':(((xs.drop off).take l)[j / z']'(by omega)).cells[j % z']?=some ((((xs.drop off).take l)[j / z']'(by omega)).cells[j % z']'(by omega)):=oG (by omega)
    have hu:((vs.toList.drop (off*z')).take (l*z')).toArray[j / z'*z'+j % z']?=some x:=by
     rw[show j / z'*z'+j % z'=j by rw[qr,Nat.div_add_mod]];simpa using hj
    exact(hrow.rel _ _ _ _ x hx' hc' hu).oneCell (ho2 _ (oI _))
  ·cases h
 case str st =>
  split at h
  ·rename_i h1;subst h1;cases h
   have hd':d = .string:=by cases d<;>simp_all [srcT]
   subst hd'
   have hl:(byteV st).length=st.size:=by unfold byteV;rw[oW,ph];rfl
   refine⟨byteCells st,by rw[hl];exact Src.ofString s.w hd st,⟨by simp[byteCells_length,hl],fun x hx=>?_,fun i x j c u hx hc hu=>?_⟩⟩
   ·obtain⟨b,_,rfl⟩:=List.mem_map.1 hx;exact⟨rfl,fun c hc=>by simp[V.cells]at hc;subst hc;rfl⟩
   ·have hx':=oH hx;simp only[byteV,oc,po]at hx;obtain⟨b,hb,rfl⟩:=hx
    have hj:j=0:=by have:=aB hc;simp[V.cells]at this;omega
    subst hj;simp[V.cells]at hc;subst hc
    have hu':(byteCells st)[i]?=some u:=by simpa using hu
    simp only[byteCells,oc,hb,pB,Option.some.injEq]at hu';rw[←hu'];exact .int _ _
  ·cases h
def St.grow(s:St)(w:World)(k g c:Nat)(bl:B):St:=⟨s.F,w,upd s.φ k g,upd s.κ k c,s.H.set k bl⟩
theorem kd{s:St}(hg:Good s){w:World}{k g c e z:Nat}{xs ys:List V}(hk:s.H[k]?=some (.buf e z xs false))(hpos:0<ys.length)(hos:w.os=s.w.os)(htape:w.tape=s.w.tape)(hout:w.output=s.w.output)(hsz:s.w.heap.size≤w.heap.size)
  (hb:∀b,b<s.w.heap.size→(s.κ k≠0→b≠s.φ k)→w.heap[b]?=s.w.heap[b]?) (hgk:(g=s.φ k∧s.κ k≠0)∨s.w.heap.size≤g):Step s (s.grow w k g c (.buf e z (xs++ys) false)) where
 F:=rfl
 os:=hos
 tape:=htape
 output:=hout
 size:=hsz
 out b h hn:=hb b h (fun hκ e=>hn k (lvB hk hκ) e.symm)
 len:=by simp[St.grow]
 new i h2 h3:=absurd h2 (by have:=h3.1;simp[St.grow]at this;omega)
 keep i b hi:=by
  have hil:=aB hi;by_cases hik:i=k
  ·subst hik;rw[hk]at hi;cases hi;refine⟨xs++ys,false,by simp[St.grow,hil],by simp,fun he=>by rw[oT]at he;omega,(fun h=>by cases h),?_⟩;simp only[St.grow,aR];exact⟨hgk.imp And.left id,fun hz=>.inr (hgk.elim (fun h=>absurd hz h.2) id)⟩
  ·have hk':(s.grow w k g c (.buf e z (xs++ys) false)).H[i]?=some b:=by simp only[St.grow];rw[oQ (Ne.symm hik)];exact hi
   have e1:(s.grow w k g c (.buf e z (xs++ys) false)).φ i=s.φ i:=bH _ _ hik;have e2:(s.grow w k g c (.buf e z (xs++ys) false)).κ i=s.κ i:=bH _ _ hik
   cases b with
   | cells cs=>exact⟨e1,cs,hk'⟩
   | map kk es=>exact⟨e1,es,hk'⟩
   | buf e0 z0 xs0 fz=>exact⟨xs0,fz,hk',oJ _,fun _=>⟨e1,e2⟩,fun hf=>⟨hf,rfl,fun hz=>hb _ (hg.lt i (lvB hi hz)).1 (fun hκ e=>hik (hg.inj i k (lvB hi hz) (lvB hk hκ) e))⟩,.inl e1,fun hz=>.inl (by rw[e2];exact hz)⟩
theorem grow_good{s:St}(hg:Good s){w:World}{k g c e z:Nat}{xs ys:List V}(hk:s.H[k]?=some (.buf e z xs false))(hpos:0<ys.length)(hos:w.os=s.w.os)(htape:w.tape=s.w.tape)(hout:w.output=s.w.output)(hsz:s.w.heap.size≤w.heap.size)
  (hb:∀b,b<s.w.heap.size→(s.κ k≠0→b≠s.φ k)→w.heap[b]?=s.w.heap[b]?) (hgk:(g=s.φ k∧s.κ k≠0)∨s.w.heap.size≤g) (hgl:g<w.heap.size)
  (hbl:Step s (s.grow w k g c (.buf e z (xs++ys) false))→BRel (s.grow w k g c (.buf e z (xs++ys) false)) k (.buf e z (xs++ys) false)):Good (s.grow w k g c (.buf e z (xs++ys) false)):=by
 have hst:=kd (c:=c) hg hk hpos hos htape hout hsz hb hgk;have hkl:=aB hk
 have hlen:(s.grow w k g c (.buf e z (xs++ys) false)).H.length=s.H.length:=by simp[St.grow]
 have hother:∀i,i≠k→(s.grow w k g c (.buf e z (xs++ys) false)).φ i=s.φ i:=fun i hi=>bH _ _ hi
 have hself:(s.grow w k g c (.buf e z (xs++ys) false)).φ k=g:=aR _ _ _
 have hlv:∀i,i≠k→Lv (s.grow w k g c (.buf e z (xs++ys) false)) i→Lv s i:=fun i hne hl=>⟨by have:=hl.1;omega,fun e' z' xs' fz' hb'=>by
  have:=hl.2 e' z' xs' fz' (by simp only[St.grow];rw[oQ (Ne.symm hne)];exact hb')
  rwa [show(s.grow w k g c (.buf e z (xs++ys) false)).κ i=s.κ i from bH _ _ hne]at this⟩
 refine⟨fun b h=>om (hg.fl b h) hsz,fun i hi=>?_,fun i j hi hj e=>?_,fun i b hi=>?_⟩
 ·by_cases hik:i=k
  ·subst hik;rw[hself];refine⟨hgl,fun hF=>?_⟩
   rcases hgk with h | h
   ·rw[h.1]at hF;exact(hg.lt i (lvB hk h.2)).2 hF
   ·have:=hg.fl g hF;omega
  ·rw[hother i hik];have:=hg.lt i (hlv i hik hi);exact⟨om this.1 hsz,this.2⟩
 ·have inj2:∀i,Lv s i→i≠k→s.φ i≠g:=fun i hi hne e=>by
   rcases hgk with h | h
   ·exact hne (hg.inj i k hi (lvB hk h.2) (e.trans h.1))
   ·have:=(hg.lt i hi).1;omega
  by_cases hik:i=k<;>by_cases hjk:j=k
  ·omega
  ·subst hik;rw[hself,hother j hjk]at e;exact absurd e.symm (inj2 j (hlv j hjk hj) hjk)
  ·subst hjk;rw[hself,hother i hik]at e;exact absurd e (inj2 i (hlv i hik hi) hik)
  ·rw[hother i hik,hother j hjk]at e;exact hg.inj i j (hlv i hik hi) (hlv j hjk hj) e
 ·by_cases hik:i=k
  ·subst hik
   have:(s.grow w i g c (.buf e z (xs++ys) false)).H[i]?=some (.buf e z (xs++ys) false):=by simp[St.grow,hkl]
   rw[this]at hi;cases hi;exact hbl hst
  ·have hi':s.H[i]?=some b:=by simp only[St.grow]at hi;rwa [oQ (Ne.symm hik)]at hi
   exact(hg.blk i b hi').step hst hi' (hother i hik) (bH _ _ hik) (fun hl=>hb _ (hg.lt i hl).1 (fun hκ e=>hik (hg.inj i k hl (lvB hk hκ) e)))
theorem fill_row(hg:Good s){k e z o:Nat}{xs ys:List V}{news:List Value}{vs:Array Value}(hk:s.H[k]?=some (.buf e z xs false))(hκ:s.κ k≠0)(hF:FRow s z ys news.toArray)(ho:o+ys.length≤xs.length)
  (hv:s.w.heap[s.φ k]?=some (.cells vs e (0,0))) (w':World) (hw:w'=s.w.setRow (s.φ k) (vs.toList.take (o*z)++news++vs.toList.drop (o*z+news.length)).toArray):
  Good (s.setB w' k (.buf e z (bE xs o ys) false))∧Step s (s.setB w' k (.buf e z (bE xs o ys) false)):=by
 subst hw;obtain⟨vs',g2,g3,g4,g5,g6,g7⟩:=hg.blk k _ hk;have g2:=g2 hκ;rw[hv]at g2;cases g2;have hlk:=lvB hk hκ
 have hnl:news.length=ys.length*z:=by have:=hF.len;simpa using this
 have hb:(o+ys.length)*z≤s.κ k*z:=ol _ (by omega);rw[ov]at hb;have hal:B.alike (.buf e z xs false) (.buf e z (bE xs o ys) false):=⟨rfl,rfl,(cY xs o ys ho).symm,rfl,rfl⟩;refine⟨bQ hg hk hlk hal rfl rfl rfl (by simp) (fun b _ hne=>setRow_other _ _ _ _ hne) (fun hst=>?_),bI hg hk hlk hal rfl rfl rfl (by simp) (fun b _ hne=>setRow_other _ _ _ _ hne)⟩;refine⟨_,fun _=>setRow_heap _ _ _ _ _ _ hv,?_,by rw[cY xs o ys ho];simpa[St.setB] using g4,g5,fun y hy=>?_,fun m y j c u hy hc hu=>?_⟩
 ·simp only[St.setB];rw[←g3];simp;omega
 ·rcases eV hy with h | h
  ·exact g6 y h
  ·exact hF.el y h
 ·have hu':(vs.toList.take (o*z)++news++vs.toList.drop (o*z+news.length))[m*z+j]?=some u:=by simpa using hu
  rw[bS vs.toList _ news (by simp;omega)]at hu';rw[bE,bS xs o ys ho]at hy;have hjl:=aB hc;by_cases hin:o≤m∧m<o+ys.length
  ·rw[if_pos hin]at hy;have hyz:=(hF.el y (oH hy)).1;have h1:o*z≤m*z:=ol _ hin.1;have h2:(m+1)*z≤(o+ys.length)*z:=ol _ (by omega);rw[ov,ov,Nat.one_mul]at h2;rw[if_pos (by omega)]at hu';refine(hF.rel (m-o) y j c u hy hc ?_).step hst;rw[show m*z+j-o*z=(m-o)*z+j by rw[Nat.sub_mul];omega]at hu';simpa using hu'
  ·rw[if_neg hin]at hy;have hyz:=(g6 y (oH hy)).1
   have hno:¬(o*z≤m*z+j∧m*z+j<o*z+news.length):=by
    rintro⟨q1,q2⟩
    rcases pS m o with hlt | hge
    ·have:(m+1)*z≤o*z:=ol _ (by omega);rw[ov]at this;omega
    ·have:(o+ys.length)*z≤m*z:=ol _ (by omega);rw[ov]at this;omega
   rw[if_neg hno]at hu';exact(g7 m y j c u hy hc (by simpa using hu')).step hst
def mI(T:Ty)(H:List B)(t tx:TypeId)(x y:V):Option (V×List B):=
 match T t,T tx with
 | some it,some ix=>match it.desc with
  | .slice e=>match T e with
   | some j=>if 0<j.size∧srcT ix.desc y=true then
     match srcA H j.size y with
     | some ys =>
      match x with
      | .nilS=>if ys.length=0 then some (x,H) else
        if ys.length≤9223372036854775807∧ys.length*j.bytes≤140737488355328 then(if it.pa=true then some (.lst j.size false ys,H) else some (.buf H.length 0 ys.length ys.length,H++[.buf e j.size ys false])) else none
      | .lst z full xs=>if ys.length=0 then some (x,H) else
        if z=j.size∧full=true∧xs.length+ys.length≤9223372036854775807∧(xs.length+ys.length)*j.bytes≤140737488355328 then
         (if it.pa=true then some (.lst j.size false (xs++ys),H) else some (.buf H.length 0 (xs.length+ys.length) (xs.length+ys.length),H++[.buf e j.size (xs++ys) false])) else none
      | .buf k off len tot=>match H[k]? with
       | some (.buf e' z xs false)=>if xs.length=tot∧e'=e∧z=j.size∧off=0∧len=tot then
         (if ys.length=0 then some (x,H) else
          if tot+ys.length≤9223372036854775807∧(tot+ys.length)*j.bytes≤140737488355328 then
           some (.buf k 0 (tot+ys.length) (tot+ys.length),H.set k (.buf e z (xs++ys) false)) else none)
         else if xs.length=tot∧e'=e∧z=j.size∧off+len+ys.length≤tot then some (.buf k off (len+ys.length) tot,H.set k (.buf e z (bE xs (off+len) ys) false)) else none
       | _=>none
      | _=>none
     | none=>none
    else none
   | none=>none
  | _=>none
 | _,_=>none
theorem lK{z:Nat}{xs ys:List V}{us vs:Array Value}(h1:FRow s z xs us)(h2:FRow s z ys vs):FRow s z (xs++ys) (us++vs):=by
 refine⟨by simp[h1.len,h2.len,ov],fun x hx=>?_,fun i x j c u hx hc hu=>?_⟩
 ·rcases List.mem_append.1 hx with h | h
  ·exact h1.el x h
  ·exact h2.el x h
 ·have hj:=aB hc;by_cases hi:i<xs.length
  ·rw[oL hi]at hx;have hl:=(h1.el x (oH hx)).1;have hb:(i+1)*z≤xs.length*z:=ol _ (by omega);rw[ov]at hb;rw[pd,if_pos (by have:=h1.len;omega)]at hu;exact h1.rel i x j c u hx hc hu
  ·rw[oS (by omega)]at hx;have hb:xs.length*z≤i*z:=ol _ (by omega);rw[pd,if_neg (by have:=h1.len;omega),h1.len]at hu;refine h2.rel (i-xs.length) x j c u hx hc ?_;rw[←hu];congr 1;rw[Nat.sub_mul];omega
theorem ke{z:Nat}{xs:List V}{us vs:Array Value}(h1:FRow s z xs us):∀(i:Nat) x (j:Nat) c u,xs[i]?=some x→x.cells[j]?=some c→(us++vs)[i*z+j]?=some u→Rel s c u:=fun i x j c u hx hc hu=>by
 have hj:=aB hc;have hi:=aB hx;have hl:=(h1.el x (oH hx)).1;have hb:(i+1)*z≤xs.length*z:=ol _ (by omega);rw[ov]at hb;rw[pd,if_pos (by have:=h1.len;omega)]at hu;exact h1.rel i x j c u hx hc hu
theorem new_row(hg:Good s){e z need old:Nat}{all:List V}{us zs:Array Value}(hrow:FRow s z all us)(hall:all.length=need)(hmax:need≤maxLen)(hzs:zs.size=(grownCap s.w need old e-need)*z):
  let w':=s.w.drew.alloc (.cells (us++zs) e)
  Good (s.push w' s.w.heap.size (grownCap s.w need old e) (.buf e z all false))∧Step s (s.push w' s.w.heap.size (grownCap s.w need old e) (.buf e z all false))∧
   Rel (s.push w' s.w.heap.size (grownCap s.w need old e) (.buf e z all false)) (.buf s.H.length 0 need need) (.slice (some ⟨s.w.heap.size,0,none⟩) need (grownCap s.w need old e)):=by
 intro w';have hc:=grownCap_ge s.w need old e;have hcm:=grownCap_le_maxLen s.w need old e hmax
 have ho:∀b,b<s.w.heap.size→w'.heap[b]?=s.w.heap[b]?:=fun b hb=>alloc_old s.w.drew _ b hb
 refine⟨dQ hg rfl rfl rfl (by show s.w.heap.size≤(s.w.drew.alloc _).heap.size;simp) ho (oJ _) (by show s.w.heap.size<(s.w.drew.alloc _).heap.size;simp) (fun hst=>?_),cq hg rfl rfl rfl (by show s.w.heap.size≤(s.w.drew.alloc _).heap.size;simp) ho (oJ _),?_⟩
 ·refine⟨us++zs,?_,?_,?_,?_,hrow.el,ke (hrow.step hst)⟩
  ·intro _;simp only[St.push,aR];exact alloc_new s.w.drew _
  ·simp only[St.push,aR,qN,hrow.len,hzs,hall];rw[←ov];congr 1;omega
  ·simp only[St.push,aR];omega
  ·simp only[St.push,aR];exact hcm
 ·refine .buf s.H.length 0 need need e z all false _ _ _ (by simp[St.push]) (by omega) (fun _=>?_);simp only[St.push,aR,pz];exact⟨fun _=>trivial,trivial,by omega,by omega⟩
theorem pure_row(hg:Good s){e z need old:Nat}{all:List V}{us zs:Array Value}(hrow:FRow s z all us)(hall:all.length=need):
  let w':=s.w.drew.alloc (.cells (us++zs) e)
  Good (s.at w')∧Step s (s.at w')∧Rel (s.at w') (.lst z false all) (.slice (some ⟨s.w.heap.size,0,none⟩) need (grownCap s.w need old e)):=by
 intro w'
 have ho:∀b,b<s.w.heap.size→w'.heap[b]?=s.w.heap[b]?:=fun b hb=>alloc_old s.w.drew _ b hb
 obtain⟨g1,g2⟩:=fL hg (w:=w') rfl rfl rfl (by show s.w.heap.size≤(s.w.drew.alloc _).heap.size;simp) ho;refine⟨g1,g2,?_⟩;have hp:(s.at w').Prot s.w.heap.size:=⟨by show s.w.heap.size<(s.w.drew.alloc _).heap.size;simp,fun hF=>by have:=hg.fl _ hF;omega,fun k hk e=>by have:=(hg.lt k hk).1;have e':s.φ k=s.w.heap.size:=e;omega⟩;have hcell:w'.heap[s.w.heap.size]?=some (.cells (us++zs) e (0,0)):=alloc_new s.w.drew _
 have:=Rel.lst (s:=s.at w') z false all (some ⟨s.w.heap.size,0,none⟩) (grownCap s.w need old e) s.w.heap.size 0 (fun i j=>(us[i*z+j]?).getD undef) (by rw[hall];exact grownCap_ge s.w need old e) (by simp) (fun _=>⟨rfl,hp⟩) hrow.el
  (fun i x j d hx hd=>by
   obtain⟨u,hu,_⟩:=hrow.at_ hx hd;have hlt:=(Array.getElem?_eq_some_iff.1 hu).1;show w'.cell? _=_;rw[pI,hu];simp only[World.cell?,hcell];rw[pd,if_pos hlt,hu]
   rfl)
  (fun i x j d hx hd=>by
   obtain⟨u,hu,hr⟩:=hrow.at_ hx hd;rw[hu]
   exact hr.step g2)
 rwa [hall]at this
theorem append_sound(hT:TOk P T)(hg:Good s){t tx ty:TypeId}{x y r:V}{ux uy:Value}{H':List B}(hx:Rel s x ux)(hy:Rel s y uy)(h:mI T s.H t tx x y=some (r,H')):
  ∃u s',(Builtin.append_ #[t,tx] ty #[ux,uy]).run P s.w = .ok u s'.w∧s'.H=H'∧Good s'∧Step s s'∧Rel s' r u:=by
 unfold mI at h;split at h
 ·rename_i it ix hit hix;have hu:=hT.und t it hit;have hux:=hT.und tx ix hix;split at h
  ·rename_i e hd;rw[hd]at hu;split at h
   ·rename_i j hj;obtain⟨inf,q1,q2,q3,q4,q5,q6⟩:=hT.info e j hj;split at h
    ·rename_i hsz;obtain⟨hz,hsrc⟩:=hsz;split at h
     ·rename_i ys hys;obtain⟨news,hS,hF⟩:=kO (P:=P) hg hz hux hsrc hy hys;rw[←q2]at hS
      have hzs:∀n,(Builtin.zeroCells j.zval.cells n).size=n*j.size:=fun n=>by
       have:=((bu (s:=s) q5).cells (eP q5)).1;simp[Builtin.zeroCells,this,q6]
      have nothing:∀base sLen sCap,ux = .slice base sLen sCap→sLen≤sCap→ys.length=0→(Builtin.append_ #[t,tx] ty #[ux,uy]).run P s.w = .ok ux s.w:=fun base sLen sCap e1 e2 e3=>by
       have hn:news=[]:=pX (by have:=hS.newsLen;rw[e3]at this;simpa using this);rw[e3,hn]at hS;subst e1;exact run_append_nothing s.w t tx ty e inf hu q1 base sLen sCap e2 uy hS
      split at h
      ·
       cases hx;split at h
       ·rename_i h0;cases h;exact⟨_,s,nothing none 0 0 rfl (oJ _) h0,rfl,hg,Step.refl s,.nilS⟩
       ·rename_i h0;split at h
        ·rename_i hc;have hrun:=run_append_grow_src (P:=P) s.w t tx ty e inf j.zval hu q1 q4 none 0 0 [] (run_firstCells_none s.w.drew _ 0 0 0) uy ys.length news hS (by omega) (by omega) (growslice_fits (by omega) (by rw[q3,pI];omega));simp only[pI,pH]at hrun;split at h
         ·cases h;obtain⟨g1,g2,g3⟩:=pure_row (zs:=Builtin.zeroCells j.zval.cells (grownCap s.w ys.length 0 e-ys.length)) (old:=0) (e:=e) hg hF rfl;exact⟨_,s.at _,hrun,rfl,g1,g2,g3⟩
         cases h;obtain⟨g1,g2,g3⟩:=new_row (zs:=Builtin.zeroCells j.zval.cells (grownCap s.w ys.length 0 e-ys.length)) (old:=0) (e:=e) hg hF rfl (by simp only[maxLen];omega) (hzs _);exact⟨_,_,hrun,rfl,g1,g2,g3⟩
        ·cases h
      ·
       rename_i z full xs
       obtain⟨A,cap,rfl⟩:∃A cap,ux = .slice A xs.length cap:=by cases hx;exact⟨_,_,rfl⟩
       have hcap:xs.length≤cap∧(full=true→cap=xs.length):=by cases hx;exact⟨by assumption,by assumption⟩
       split at h
       ·rename_i h0;cases h;exact⟨_,s,nothing A xs.length cap rfl hcap.1 h0,rfl,hg,Step.refl s,hx⟩
       ·rename_i h0;split at h
        ·rename_i hc;obtain⟨rfl,hf,hc1,hc2⟩:=hc;have hcl:=hcap.2 hf;subst hcl;obtain⟨olds,hSo,hFo⟩:=kO (P:=P) (tx:=t) hg hz hu (y:=.lst j.size full xs) (ys:=xs) rfl hx (by simp[srcA]);rw[←q2]at hSo;have hrun:=run_append_grow_src (P:=P) s.w t tx ty e inf j.zval hu q1 q4 A xs.length xs.length olds hSo.cellsD uy ys.length news hS (by omega) (by omega) (growslice_fits (by omega) (by rw[q3];omega));have hFF:=lK hFo hF;rw[show(olds++news).toArray=olds.toArray++news.toArray by simp]at hrun;split at h
         ·cases h;obtain⟨g1,g2,g3⟩:=pure_row (zs:=Builtin.zeroCells j.zval.cells (grownCap s.w (xs.length+ys.length) xs.length e-(xs.length+ys.length))) (old:=xs.length) (e:=e) (need:=xs.length+ys.length) hg hFF oT;exact⟨_,s.at _,hrun,rfl,g1,g2,g3⟩
         cases h;obtain⟨g1,g2,g3⟩:=new_row (zs:=Builtin.zeroCells j.zval.cells (grownCap s.w (xs.length+ys.length) xs.length e-(xs.length+ys.length))) (old:=xs.length) (e:=e) hg hFF (by simp) (by simp only[maxLen];omega) (hzs _);exact⟨_,_,hrun,rfl,g1,g2,g3⟩
        ·cases h
      ·
       rename_i k off len tot;split at h
       ·rename_i e' z xs hk;split at h
        ·rename_i hc;obtain⟨hxt,rfl,rfl,rfl,rfl⟩:=hc
         cases hx with
         | buf _ _ _ _ e2 z2 xs2 fz2 A l c hk2 ht2 hh2 =>
          rw[hk]at hk2;cases hk2;obtain⟨hA,rfl,hcap,hoff⟩:=hh2 hxt.symm;obtain⟨vs,g2,g3,g4,g5,g6,g7⟩:=hg.blk k _ hk;simp only[pI]at hcap hoff;subst hcap;split at h
          ·rename_i h0;cases h;exact⟨_,s,nothing _ _ _ rfl (by omega) h0,rfl,hg,Step.refl s,.buf k 0 l l e' j.size xs false _ _ _ hk (by omega) (fun he=>⟨hA,rfl,by omega,by omega⟩)⟩
          ·rename_i h0;split at h
           ·rename_i hc;cases h;subst hxt;have hnl:=hS.newsLen;rw[q2]at hnl
            have hlen2:(xs++ys).length=xs.length+ys.length:=by simp
            have hold:FRow s j.size xs (vs.toList.take (xs.length*j.size)).toArray:=by
             have hb:xs.length*j.size≤s.κ k*j.size:=ol _ g4;refine⟨by simp;omega,g6,fun i x m c u hx hc hu=>?_⟩
             have hu':(vs.toList.take (xs.length*j.size))[i*j.size+m]?=some u:=by simpa using hu
             rw[pD]at hu';split at hu'
             ·exact g7 i x m c u hx hc (by simpa using hu')
             ·cases hu'
            have hFF:=lK hold hF;by_cases hroom:xs.length+ys.length≤s.κ k
            ·have hκ:s.κ k≠0:=by omega
             have hA:=hA hκ;subst hA;have g2:=g2 hκ;have hb:(xs.length+ys.length)*j.size≤s.κ k*j.size:=ol _ hroom;rw[ov]at hb
             have hcell:∀m,m<news.length→(s.w.cell? ⟨s.φ k,0+xs.length*inf.size+m,none⟩).isSome=true:=fun m hm=>by
              rw[q2];simp only[World.cell?,g2];simp;omega
             have hfro:∀m,m<news.length→s.w.frozen? ⟨s.φ k,0+xs.length*inf.size+m,none⟩=false:=fun m hm=>by simp[World.frozen?,g2]
             have hrun:=run_append_room_src (P:=P) s.w t tx ty e' inf hu q1 (s.φ k) 0 xs.length (s.κ k) uy ys.length news hS hroom hcell hfro;rw[q2,pI,bh (s.φ k) e' news _ vs s.w g2 (by omega)]at hrun;rw[pz];refine⟨_,s.grow _ k (s.φ k) (s.κ k) _,hrun,rfl,?_,kd hg hk (by omega) rfl rfl rfl (by simp) (fun b _ hne=>setRow_other _ _ _ _ (hne hκ)) (.inl ⟨rfl,hκ⟩),?_⟩
             ·refine grow_good hg hk (by omega) rfl rfl rfl (by simp) (fun b _ hne=>setRow_other _ _ _ _ (hne hκ)) (.inl ⟨rfl,hκ⟩) (by have:=(hg.lt k (lvB hk hκ)).1;simpa using this) (fun hst=>?_);refine⟨_,fun _=>by simp only[St.grow,aR];exact setRow_heap _ _ _ _ _ _ g2,?_,?_,?_,hFF.el,?_⟩
              ·simp only[St.grow,aR];rw[←g3];simp;omega
              ·simp only[St.grow,aR];omega
              ·simp only[St.grow,aR];exact g5
              ·have:=ke (vs:=(vs.toList.drop (xs.length*j.size+news.length)).toArray) (hFF.step hst);simpa using this
             ·refine .buf k 0 _ _ e' j.size (xs++ys) false _ _ _ (by simp[St.grow,aB hk]) (by omega) (fun _=>?_);simp only[St.grow,aR,pz];exact⟨fun _=>trivial,trivial,by omega,by omega⟩
            ·have hold2:(Builtin.firstCells inf.size xs.length (.slice A xs.length (s.κ k))).run P s.w.drew = .ok (vs.toList.take (xs.length*j.size)).toArray s.w.drew:=by
              by_cases hl0:xs.length=0
              ·rw[hl0,pz]
               cases A with
               | none=>simpa using run_firstCells_none s.w.drew inf.size 0 0 (s.κ k)
               | some a=>simpa using run_firstCells_some s.w.drew inf.size 0 a 0 (s.κ k) [] (by simp) (fun j u h=>by simp at h)
              have hκ:s.κ k≠0:=by omega
              have hA:=hA hκ;subst hA;have g2:=g2 hκ;have hb:xs.length*j.size≤s.κ k*j.size:=ol _ g4;refine run_firstCells_some s.w.drew _ _ _ _ _ _ (by rw[q2];simp;omega) (fun m u hm=>?_);have hml:=aB hm;rw[pD]at hm;split at hm
              ·rw[bd];simp only[World.cell?];rw[show s.w.drew.heap=s.w.heap from rfl,g2];simpa using hm
              ·cases hm
             have hrun:=run_append_grow_src (P:=P) s.w t tx ty e' inf j.zval hu q1 q4 A xs.length (s.κ k) (vs.toList.take (xs.length*j.size)) hold2 uy ys.length news hS (by omega) (by omega) (growslice_fits (by omega) (by rw[q3];omega));have hcg:=grownCap_ge s.w (xs.length+ys.length) (s.κ k) e';have hcm:=grownCap_le_maxLen s.w (xs.length+ys.length) (s.κ k) e' (by simp only[maxLen];omega);rw[show(vs.toList.take (xs.length*j.size)++news).toArray=(vs.toList.take (xs.length*j.size)).toArray++news.toArray by simp]at hrun
             have ho:∀o b,b<s.w.heap.size→(s.κ k≠0→b≠s.φ k)→(s.w.drew.alloc o).heap[b]?=s.w.heap[b]?:=fun o b hb _=>alloc_old s.w.drew o b hb
             refine⟨_,s.grow _ k s.w.heap.size (grownCap s.w (xs.length+ys.length) (s.κ k) e') _,hrun,rfl,?_,kd hg hk (by omega) rfl rfl rfl (by show s.w.heap.size≤(s.w.drew.alloc _).heap.size;simp) (ho _) (.inr (oJ _)),?_⟩
             ·refine grow_good hg hk (by omega) rfl rfl rfl (by show s.w.heap.size≤(s.w.drew.alloc _).heap.size;simp) (ho _) (.inr (oJ _)) (by show s.w.heap.size<(s.w.drew.alloc _).heap.size;simp) (fun hst=>?_);refine⟨_,fun _=>by simp only[St.grow,aR];exact alloc_new s.w.drew _,?_,?_,?_,hFF.el,ke (hFF.step hst)⟩
              ·simp only[St.grow,aR,qN,hzs];have:=hFF.len;rw[qN]at this;rw[this,hlen2,←ov];congr 1;omega
              ·simp only[St.grow,aR];omega
              ·simp only[St.grow,aR];exact hcm
             ·refine .buf k 0 _ _ e' j.size (xs++ys) false _ _ _ (by simp[St.grow,aB hk]) (by omega) (fun _=>?_);simp only[St.grow,aR,pz];exact⟨fun _=>trivial,trivial,by omega,by omega⟩
           ·cases h
        ·rename_i hno;split at h
         ·rename_i hc;obtain⟨hxt,rfl,rfl,hle⟩:=hc;cases h
          cases hx with
          | buf _ _ _ _ e2 z2 xs2 fz2 A l c hk2 ht2 hh2 =>
           rw[hk]at hk2;cases hk2;obtain⟨hA,rfl,hcap,hoff⟩:=hh2 hxt.symm;obtain⟨vs,g2,g3,g4,g5,g6,g7⟩:=hg.blk k _ hk
           have htp:tot≠0:=fun h0=>hno ⟨hxt,rfl,rfl,by omega,by omega⟩
           have hκ:s.κ k≠0:=by omega
           have hA:=hA hκ;subst hA;have g2:=g2 hκ;have hnl:=hS.newsLen;rw[q2]at hnl;have hb:(off+l+ys.length)*j.size≤s.κ k*j.size:=ol _ (by omega);rw[ov,ov]at hb
           have hcell:∀m,m<news.length→(s.w.cell? ⟨s.φ k,off*j.size+l*inf.size+m,none⟩).isSome=true:=fun m hm=>by
            rw[q2];simp only[World.cell?,g2];simp;omega
           have hfro:∀m,m<news.length→s.w.frozen? ⟨s.φ k,off*j.size+l*inf.size+m,none⟩=false:=fun m hm=>by simp[World.frozen?,g2]
           have hrun:=run_append_room_src (P:=P) s.w t tx ty e' inf hu q1 (s.φ k) (off*j.size) l c uy ys.length news hS (by omega) hcell hfro;rw[q2,←ov,bh (s.φ k) e' news _ vs s.w g2 (by rw[ov];omega)]at hrun;obtain⟨f1,f2⟩:=fill_row (o:=off+l) hg hk hκ hF (by omega) g2 _ rfl;refine⟨_,_,hrun,rfl,f1,f2,?_⟩;refine .buf k off _ tot e' j.size (bE xs (off+l) ys) false _ _ _ (by simp[St.setB,aB hk]) (by rw[cY xs _ _ (by omega)];omega) (fun _=>?_);exact⟨fun _=>rfl,rfl,hcap,by omega⟩
         ·cases h
       ·cases h
      ·cases h
     ·cases h
    ·cases h
   ·cases h
  ·cases h
 ·cases h
def copyA(T:Ty)(H:List B)(t tx:TypeId)(x y:V):Option (V×List B):=
 match x with
 | .sarr k n=>match T t,T tx,H[k]? with
  | some it,some ix,some (.cells cs)=>match it.desc with
   | .slice e=>match T e with
    | some j=>if j.size=1∧srcT ix.desc y=true∧n=cs.length then
      (match srcA H 1 y with
      | some ys=>if ys.length≤n then some (.int .i64 ys.length,H.set k (.cells (bE cs 0 (ys.flatMap V.cells)))) else none
      | none=>none) else none
    | none=>none
   | _=>none
  | _,_,_=>none
 | _=>none
theorem copy_sound(hT:TOk P T)(hg:Good s){t tx ty:TypeId}{x y r:V}{ux uy:Value}{H':List B}(hx:Rel s x ux)(hy:Rel s y uy)(h:copyA T s.H t tx x y=some (r,H')):
  ∃u s',(Builtin.copy_ #[t,tx] ty #[ux,uy]).run P s.w = .ok u s'.w∧s'.H=H'∧Good s'∧Step s s'∧Rel s' r u:=by
 unfold copyA at h;split at h
 ·rename_i k n;split at h
  ·rename_i it ix cs hit hix hk;have hu:=hT.und t it hit;have hux:=hT.und tx ix hix;split at h
   ·rename_i e hd;rw[hd]at hu;split at h
    ·rename_i j hj;split at h
     ·rename_i hc;obtain⟨hz,hsrc,rfl⟩:=hc;split at h
      ·rename_i ys hys;split at h
       ·rename_i hle;cases h
        cases hx with
        | sarr _ _ cs' hk' =>
         obtain⟨news,hS,hF⟩:=kO (P:=P) hg (by omega:0<1) hux hsrc hy hys;obtain⟨h1,vs,e',h2,h3,h4⟩:=hg.blk k _ hk;have hone:∀y∈ys,y.cells.length=1∧∀c∈y.cells,c.one=true:=hF.el
         have hfl:(ys.flatMap V.cells).length=ys.length:=by
          clear hys hle hF hS
          induction ys with
          | nil=>rfl
          | cons y ys ih=>simp only[qh,oT,og,(hone y (by simp)).1,ih (fun z hz=>hone z (by simp[hz]))];omega
         have hfat:∀(i:Nat) c,(ys.flatMap V.cells)[i]?=some c→∃y,ys[i]?=some y∧y.cells[0]?=some c:=by
          clear hys hle hF hS hfl
          induction ys with
          | nil=>intro i c hc;simp at hc
          | cons y ys ih =>
           intro i c hc;obtain⟨d,hd⟩:∃d,y.cells=[d]:=List.length_eq_one_iff.1 (hone y (by simp)).1;rw[qh,hd]at hc
           cases i with
           | zero=>simp at hc;exact⟨y,rfl,by rw[hd,←hc];rfl⟩
           | succ i=>simpa using ih (fun z hz=>hone z (by simp[hz])) i c (by simpa using hc)
         have hnl:news.length=ys.length:=by rw[hS.newsLen];omega
         have hst:=run_storeCells_at (P:=P) (s.φ k) 0 e' news 0 vs s.w h2 (by simp;omega) hS.one;simp only[qH]at hst
         have hspl:(0:Nat)+(ys.flatMap V.cells).length≤cs.length:=by omega
         refine⟨.int .i64 ys.length,s.setB (s.w.setRow (s.φ k) (vs.toList.take 0++news++vs.toList.drop (0+news.length)).toArray) k (.cells (bE cs 0 (ys.flatMap V.cells))),?_,rfl,?_,?_,.int _ _⟩
         ·have hmin:Nat.min ys.length cs.length=ys.length:=qE hle;have hsz:=run_sizeOf (P:=P) hT hj;rw[hz]at hsz;simp only[Builtin.copy_,Sem.run_bind,Sem.run_pure,Result.andThen_ok,qk,qI,pL,run_underlying hu,hS.len,hmin,hsz,hS.cells,hst,goInt];rfl
         ·refine bQ hg hk (lvC hk) trivial rfl rfl rfl (by simp) (fun b _ hne=>setRow_other _ _ _ _ hne) (fun hst=>?_);refine⟨fun c hc=>?_,_,e',setRow_heap _ _ _ _ _ _ h2,?_,fun j c u hc hu=>?_⟩
          ·rcases eV hc with h | h
           ·exact h1 c h
           ·obtain⟨y',hy',hc'⟩:=List.mem_flatMap.1 h;exact(hone y' hy').2 c hc'
          ·rw[cY cs 0 _ hspl];simp;omega
          ·rw[bE,bS cs 0 _ hspl]at hc
           have hu':(vs.toList.take 0++news++vs.toList.drop (0+news.length))[j]?=some u:=by simpa using hu
           rw[bS vs.toList 0 news (by simp;omega)]at hu';rw[hfl]at hc;rw[hnl]at hu';split at hc
           ·rename_i hjj;rw[if_pos hjj]at hu';obtain⟨y',hy1,hy2⟩:=hfat _ c hc;exact(hF.rel _ y' 0 c u hy1 hy2 (by simpa using hu')).step hst
           ·rename_i hjj;rw[if_neg hjj]at hu';exact(h4 j c u hc (by simpa using hu')).step hst
         ·exact bI hg hk (lvC hk) trivial rfl rfl rfl (by simp) (fun b _ hne=>setRow_other _ _ _ _ hne)
       ·cases h
      ·cases h
     ·cases h
    ·cases h
   ·cases h
  ·cases h
 ·cases h
def clearA(T:Ty)(H:List B)(t:TypeId)(x:V):Option (V×List B):=
 match x with
 | .buf k off len tot=>match T t,H[k]? with
  | some it,some (.buf e z xs false)=>match it.desc with
   | .slice e'=>match T e' with
    | some j=>if j.size=z∧0<z∧tot=xs.length∧off+len≤tot then some (.tup [],if len=0 then H else H.set k (.buf e z (bE xs off (oE len j.zero)) false)) else none
    | none=>none
   | _=>none
  | _,_=>none
 | _=>none
theorem clear_sound(hT:TOk P T)(hg:Good s){t ty:TypeId}{x r:V}{ux:Value}{H':List B}(hx:Rel s x ux)(h:clearA T s.H t x=some (r,H')):
  ∃u s',(Builtin.clear_ #[t] ty #[ux]).run P s.w = .ok u s'.w∧s'.H=H'∧Good s'∧Step s s'∧Rel s' r u:=by
 unfold clearA at h;split at h
 ·rename_i k off len tot;split at h
  ·rename_i it e z xs hit hk;have hu:=hT.und t it hit;split at h
   ·rename_i e' hd;rw[hd]at hu;split at h
    ·rename_i j hj;split at h
     ·rename_i hc;obtain⟨rfl,hz,hxt,hle⟩:=hc
      cases hx with
      | buf _ _ _ _ e2 z2 xs2 fz2 A l c hk2 ht2 hh2 =>
       rw[hk]at hk2;cases hk2;obtain⟨hA,rfl,hcap,hoff⟩:=hh2 hxt;obtain⟨inf,q1,q2,q3,q4,q5,q6⟩:=hT.info e' j hj;by_cases hl0:l=0
       ·subst hl0;rw[if_pos rfl]at h;cases h;refine⟨.tuple #[],s,?_,rfl,hg,Step.refl s,.tup [] #[] rfl (by simp)⟩;cases A<;>simp[Builtin.clear_,run_underlying hu]
       ·rw[if_neg hl0]at h;cases h;obtain⟨vs,g2,g3,g4,g5,g6,g7⟩:=hg.blk k _ hk
        have hκ:s.κ k≠0:=by omega
        have hA:=hA hκ;subst hA;have g2:=g2 hκ;have hzr:Rel s j.zero j.zval:=bu q5;have hz1:=eP q5;obtain⟨z1,z2,z3⟩:=hzr.cells hz1
        have hsz:j.zval.cells.size=j.size:=by rw[z1,q6]
        have hzs:(Builtin.zeroCells j.zval.cells l).size=l*j.size:=by simp[Builtin.zeroCells,hsz]
        have hat:∀i,i<l*j.size→(Builtin.zeroCells j.zval.cells l)[i]?=j.zval.cells[i % j.size]?:=fun i hi=>by
         have:i % j.size<j.zval.cells.size:=by rw[hsz];exact ro _ hz
         rw[pn this,←getElem!_pos j.zval.cells _ this];simp[Builtin.zeroCells,hsz,hi]
        have hF:FRow s j.size (oE l j.zero) (Builtin.zeroCells j.zval.cells l).toList.toArray:=by
         refine⟨by simp[hzs],fun x hx=>?_,fun i x jj d u hx hd hu2=>?_⟩
         ·rw[pi hx];exact⟨q6,by simpa using hz1⟩
         ·have hxe:=pi (oH hx);subst hxe
          have hi:i<l:=by have:=aB hx;simpa using this
          have hjj:=aB hd;have hb:(i+1)*j.size≤l*j.size:=ol _ (by omega);rw[ov]at hb;rw[Array.toArray_toList,hat _ (by omega),show(i*j.size+jj) % j.size=jj by rw[qr,rj];exact rZ (by omega)]at hu2;exact z2 jj d u hd hu2
        have hone:∀v∈(Builtin.zeroCells j.zval.cells l).toList,v.oneCell'=true:=fun v hv=>by
         obtain⟨i,hi⟩:=qU hv;have hil:=aB hi;simp only[ph,hzs]at hil;rw[pV,hat i hil]at hi;exact z3 v (by simpa using Array.mem_of_getElem? hi)
        have hb:(off+l)*j.size≤s.κ k*j.size:=ol _ (by omega);rw[ov]at hb;have hst:=run_storeCells_at (P:=P) (s.φ k) (off*j.size) e (Builtin.zeroCells j.zval.cells l).toList 0 vs s.w g2 (by simp only[ph,hzs];omega) hone;simp only[qH]at hst;obtain⟨f1,f2⟩:=fill_row (o:=off) hg hk hκ hF (by simp;omega) g2 _ rfl;refine⟨.tuple #[],_,?_,rfl,f1,f2,.tup [] #[] rfl (by simp)⟩
        have hzv:∀w,(zeroValue e').run P w = .ok j.zval w:=fun w=>by simp[zeroValue,typeInfo,q1,q4]
        obtain⟨m,rfl⟩:∃m,l=m+1:=⟨l-1,by omega⟩;simp only[Builtin.clear_,Sem.run_bind,Sem.run_pure,Result.andThen_ok,qk,qI,run_underlying hu,hzv,hst];rfl
     ·cases h
    ·cases h
   ·cases h
  ·cases h
 ·cases h
end
end Go.AM
namespace Go.AM
open Go
def kkOf(T:Ty)(t:TypeId):Option (KK×TypeId):=
 match T t with
 | some i=>match i.desc with
  | .map k e=>match T k with
   | some ik=>match ik.kk with
    | some kk=>some (kk,e)
    | none=>none
   | none=>none
  | _=>none
 | none=>none
def mn(T:Ty)(H:List B)(t:TypeId):Option (V×List B):=
 match kkOf T t with
 | some (kk,_)=>some (.map H.length,H++[.map kk []])
 | none=>none
def okRes(c:Bool)(v:V)(ok:Bool):V:=if c then .tup [v,.bool ok] else v
def ln(T:Ty)(H:List B)(t:TypeId)(m k:V)(c:Bool):Option V :=
 match kkOf T t with
 | some (kk,e)=>match T e with
  | some j=>if ag k=some kk then
    match m with
    | .nilM=>some (okRes c j.zero false)
    | .map r=>match H[r]? with
     | some (.map kk' es)=>if kk'=kk then
       match cK k es 0 with
       | some (_,v)=>some (okRes c v true)
       | none=>some (okRes c j.zero false)
      else none
     | _=>none
    | _=>none
   else none
  | none=>none
 | none=>none
def putA(k v:V)(es:List (V×V)):List (V×V):=
 match cK k es 0 with
 | some (i,_)=>es.set i (k,v)
 | none=>es++[(k,v)]
def ef(T:Ty)(H:List B)(t:TypeId)(m k v:V):Option (List B):=
 match kkOf T t with
 | some (kk,_)=>if ag k=some kk then
   match m with
   | .map r=>match H[r]? with
    | some (.map kk' es)=>if kk'=kk then some (H.set r (.map kk (putA k v es))) else none
    | _=>none
   | _=>none
  else none
 | none=>none
theorem ba_beq(a b:ByteArray):(a == b)=true↔a=b:=by
 cases a;cases b;rename_i x y;show(x == y)=true↔_;simp
section
variable {P:Program} {T:Ty} {s:St}
theorem eqIs_val:∀{cs ds:List V},kh cs ds=true→cs.all gS=true→ds.all gS=true→cs.map da=ds.map da
 | [],[],_,_,_=>rfl
 | [],_::_,h,_,_=>by simp[kh]at h
 | c::cs,[],h,_,_=>by cases c<;>simp[kh]at h
 | c::cs,d::ds,h,h1,h2=>by
  simp only[rh,oP]at h1 h2;obtain⟨h1,h1'⟩:=h1;obtain⟨h2,h2'⟩:=h2
  cases c<;>simp only[gS]at h1<;>try (cases h1;done)
  rename_i k a
  cases d<;>simp only[gS]at h2<;>try (cases h2;done)
  rename_i k' b;simp only[kh,oP,beq_iff_eq]at h;obtain⟨rfl,h⟩:=h;rw[oq,oq,eqIs_val h h1' h2']
  cases k<;>simp only at h1<;>try (cases h1;done)
  cases k'<;>simp only at h2<;>try (cases h2;done)
  rfl
theorem ji{cs:List V}{kk:KK}(h:ag (.agg cs)=some kk):cs.all gS=true:=by
 simp only[ag]at h;split at h
 ·assumption
 ·cases h
theorem keyEq_val{v k:V}{kk:KK}(h:bB v k=true)(h1:ag v=some kk)(h2:ag k=some kk):cH v=cH k:=by
 cases v<;>cases k<;>simp only[bB]at h<;>try (cases h;done)
 case int.int k a k' b=>simp only[ag,Option.some.injEq]at h1 h2;subst h1;cases h2;simp at h;subst h;rfl
 case str.str a b=>rw[ba_beq]at h;subst h;rfl
 case bool.bool a b=>simp at h;subst h;rfl
 case agg.agg cs ds=>simp only[cH];rw[eqIs_val h (ji h1) (ji h2)]
theorem key_val{v:V}{u:Value}{kk:KK}(h:Rel s v u)(hk:ag v=some kk):u=cH v:=by
 cases h<;>simp only[ag]at hk<;>try (cases hk;done)
 case int=>rfl
 case str=>rfl
 case bool=>rfl
 case agg cs us hl h1 hr =>
  have ha:=ji hk;simp only[cH];congr 1;apply Array.ext
  ·simp[hl]
  ·intro i hi1 hi2
   have hi:i<cs.length:=by omega
   have e:cs[i]?=some cs[i]:=oG hi
   have hu:us[i]?=some us[i]:=by simp[hi1]
   have hrr:=hr i _ _ e hu
   have h64:gS cs[i]=true:=by rw[pR]at ha;exact ha _ (oI hi)
   generalize cs[i]=c at *
   have:us[i]=da c:=by
    obtain⟨u',hu'⟩:∃u',us[i]=u':=⟨_,rfl⟩;rw[hu']at hrr ⊢
    cases hrr<;>simp only[gS]at h64<;>try (cases h64;done)
    rfl
   rw[this];simp[List.getElem?_eq_some_iff]at e;obtain⟨_,rfl⟩:=e;simp
theorem nP(k:V):∀(es:List (V×V)) (n:Nat),(cK k es n=none∧∀p∈es,bB k p.1=false)∨
  ∃i p,cK k es n=some (n+i,p.2)∧es[i]?=some p∧bB k p.1=true∧∀j p',j<i→es[j]?=some p'→bB k p'.1=false
 | [],n=>.inl ⟨rfl,by simp⟩
 | p::es,n=>by
  cases h:bB k p.1
  ·rcases nP k es (n+1) with⟨h1,h2⟩ | ⟨i,q,h1,h2,h3,h4⟩
   ·exact .inl ⟨by simp[cK,h,h1],fun q hq=>(List.mem_cons.1 hq).elim (fun e=>by rw[e];exact h) (h2 q)⟩
   ·refine .inr ⟨i+1,q,by simp[cK,h,h1];omega,by simpa using h2,h3,fun j p' hj hp=>?_⟩
    cases j with
    | zero=>simp at hp;subst hp;exact h
    | succ j=>exact h4 j p' (by omega) (by simpa using hp)
  ·exact .inr ⟨0,p,by simp[cK,h],rfl,h,fun j _ hj=>absurd hj (by omega)⟩
theorem kkOf_spec(hT:TOk P T){t e:TypeId}{kk:KK}(h:kkOf T t=some (kk,e)):∃k,P.underlying t=some (.map k e)∧KLaw P k kk:=by
 unfold kkOf at h;split at h
 ·rename_i i hi;split at h
  ·rename_i k e' hd;have hu:=hT.und t i hi;rw[hd]at hu;split at h
   ·rename_i ik hik;split at h
    ·rename_i kk' hkk;cases h;exact⟨k,hu,hT.key k ik kk hik hkk⟩
    ·cases h
   ·cases h
  ·cases h
 ·cases h
theorem nL(hg:Good s){r:Nat}{kk:KK}{es:List (V×V)}(hr:s.H[r]?=some (.map kk es)){t:TypeId}(L:KLaw P t kk){k:V}(hk:ag k=some kk):
  ∃(ms:Array MapEntry) (cl:Nat),s.w.heap[s.φ r]?=some (.map ms cl)∧ms.size=es.length∧(∀(i:Nat) p m,es[i]?=some p→ms[i]?=some m→Rel s p.1 m.key∧Rel s p.2 m.val∧m.key=cH p.1)∧
   ((cK k es 0=none∧(Instr.findKey t (cH k) ms.toList).run P s.w = .ok none s.w)∨
    ∃i p m,cK k es 0=some (i,p.2)∧es[i]?=some p∧ms[i]?=some m∧bB k p.1=true∧(Instr.findKey t (cH k) ms.toList).run P s.w = .ok (some (i,m.val)) s.w):=by
 obtain⟨h1,ms,cl,h2,h3,h4⟩:=hg.blk r _ hr
 have hkey:∀(i:Nat) p m,es[i]?=some p→ms[i]?=some m→m.key=cH p.1:=fun i p m hp hm=>key_val (h4 i p m hp hm).1 (h1 p (oH hp))
 refine⟨ms,cl,h2,h3,fun i p m hp hm=>⟨(h4 i p m hp hm).1,(h4 i p m hp hm).2,hkey i p m hp hm⟩,?_⟩
 have hmap:ms.toList.map (·.key)=(es.map (·.1)).map cH:=by
  apply pT;intro i;simp only[oc,pV];by_cases hi:i<es.length
  ·have e1:es[i]?=some es[i]:=oG hi
   have e2:ms[i]?=some (ms[i]'(by omega)):=by simp[h3,hi]
   rw[e1,e2];simp only[pB,hkey i _ _ e1 e2]
  ·rw[pK (by omega),qX (by omega)];rfl
 obtain⟨r',hrun,hres⟩:=L.find s.w k (es.map (·.1)) ms.toList hk (fun x hx=>by obtain⟨p,hp,rfl⟩:=List.mem_map.1 hx;exact h1 p hp) hmap
 rcases nP k es 0 with⟨f1,f2⟩ | ⟨i,p,f1,f2,f3,f4⟩
 ·left;refine⟨f1,?_⟩
  rcases hres with⟨rfl,_⟩ | ⟨i,k',e,rfl,q1,_,q3,_⟩
  ·exact hrun
  ·simp only[oc,po]at q1;obtain⟨p,hp,rfl⟩:=q1;rw[f2 p (oH hp)]at q3;cases q3
 ·right;rw[pI]at f1;have hi:=aB f2
  have e2:ms[i]?=some (ms[i]'(by omega)):=by simp[h3,hi]
  refine⟨i,p,_,f1,f2,e2,f3,?_⟩
  rcases hres with⟨rfl,hno⟩ | ⟨i',k',e,rfl,q1,q2,q3,q4⟩
  ·rw[hno p.1 (List.mem_map.2 ⟨p,oH f2,rfl⟩)]at f3;cases f3
  ·simp only[oc,po]at q1;obtain⟨p',hp',rfl⟩:=q1
   have:i=i':=by
    rcases rQ i i' with h | h | h
    ·rw[q4 i p.1 h (by simp[f2])]at f3;cases f3
    ·exact h
    ·rw[f4 i' p' h hp']at q3;cases q3
   subst this
   have:e=ms[i]'(by omega):=by rw[pV,e2]at q2;cases q2;rfl
   subst this;exact hrun
theorem kW{c ok:Bool}{v:V}{u:Value}(h:Rel s v u):Rel s (okRes c v ok) (if c then .tuple #[u,.bool ok] else u):=by
 unfold okRes;cases c
 ·exact h
 ·refine .tup _ _ rfl (fun i x w hx hw=>?_)
  match i with
  | 0=>simp at hx hw;subst hx;subst hw;exact h
  | 1=>simp at hx hw;subst hx;subst hw;exact .bool _
  | n+2=>simp at hx
theorem lookup_sound(hT:TOk P T)(hg:Good s){t:TypeId}{m k r:V}{um uk:Value}{c:Bool}(hm:Rel s m um)(hk:Rel s k uk)(h:ln T s.H t m k c=some r):
  ∃u,(Instr.lookup t um uk c).run P s.w = .ok u s.w∧Rel s r u:=by
 unfold ln at h;split at h
 ·rename_i kk e hkk;obtain⟨kt,hu,L⟩:=kkOf_spec hT hkk;split at h
  ·rename_i j hj;obtain⟨inf,q1,q2,q3,q4,q5,q6⟩:=hT.info e j hj;split at h
   ·rename_i hkind;have huk:=key_val hk hkind;subst huk;split at h
    ·cases hm;cases h;have hf:=L.find s.w k [] [] hkind (by simp) rfl;obtain⟨r',hrun,hres⟩:=hf
     have:r'=none:=by
      rcases hres with⟨h,_⟩ | ⟨i,k',e',_,h2,_⟩
      ·exact h
      ·simp at h2
     subst this;refine⟨_,?_,kW (bu q5)⟩;simp[Instr.lookup,run_underlying hu,L.check _ _ k hkind,hrun,fC hT hj]
    ·rename_i rr;split at h
     ·rename_i kk' es hr;split at h
      ·rename_i hkk';subst hkk';cases hm;obtain⟨ms,cl,h2,h3,h4,hf⟩:=nL hg hr L hkind
       rcases hf with⟨f1,f2⟩ | ⟨i,p,mm,f1,f2,f3,f4,f5⟩
       ·rw[f1]at h;cases h;refine⟨_,?_,kW (bu q5)⟩;simp[Instr.lookup,run_underlying hu,MapKept.run_getObj_map h2,L.check _ _ k hkind,f2,fC hT hj]
       ·rw[f1]at h;cases h;refine⟨_,?_,kW (h4 i p mm f2 f3).2.1⟩;simp[Instr.lookup,run_underlying hu,MapKept.run_getObj_map h2,L.check _ _ k hkind,f5]
      ·cases h
     ·cases h
    ·cases h
   ·cases h
  ·cases h
 ·cases h
theorem sameBits_val{v:V}{kk:KK}(h:ag v=some kk):Instr.sameBits 10000 (cH v) (cH v)=true:=by
 cases v<;>simp only[ag]at h<;>try (cases h;done)
 case int=>simp[cH,da,Instr.sameBits]
 case str=>simp only[cH,da,Instr.sameBits];exact(ba_beq _ _).2 rfl
 case bool=>simp[cH,da,Instr.sameBits]
 case agg cs =>
  have ha:=ji h;simp only[cH,Instr.sameBits];simp only[beq_self_eq_true,pE,pR];intro p hp
  have hp':∃c∈cs,p=(da c,da c):=by
   clear h ha
   induction cs with
   | nil=>simp at hp
   | cons c cs ih =>
    simp only[oq,List.zip_cons_cons,oR]at hp
    rcases hp with rfl | hp
    ·exact⟨c,by simp,rfl⟩
    ·obtain⟨c',h1,h2⟩:=ih hp;exact⟨c',by simp[h1],h2⟩
  obtain⟨c,hc,rfl⟩:=hp';have h64:=List.all_eq_true.1 ha c hc
  cases c<;>simp only[gS]at h64<;>try (cases h64;done)
  simp[da,Instr.sameBits]
theorem gQ(hT:TOk P T)(hg:Good s){t:TypeId}{m k v:V}{um uk uv:Value}{H':List B}(hm:Rel s m um)(hk:Rel s k uk)(hv:Rel s v uv)(h:ef T s.H t m k v=some H'):
  ∃s',(Instr.mapUpdate t um uk uv).run P s.w = .ok () s'.w∧s'.H=H'∧Good s'∧Step s s':=by
 unfold ef at h;split at h
 ·rename_i kk e hkk;obtain⟨kt,hu,L⟩:=kkOf_spec hT hkk;split at h
  ·rename_i hkind;have huk:=key_val hk hkind;split at h
   ·rename_i rr;split at h
    ·rename_i kk' es hr;split at h
     ·rename_i hkk';subst hkk';cases h;cases hm;obtain⟨h0,_⟩:=hg.blk rr _ hr;obtain⟨ms,cl,h2,h3,h4,hf⟩:=nL hg hr L hkind;have hlt:=(Array.getElem?_eq_some_iff.1 h2).1
      have other:∀o b,b<s.w.heap.size→b≠s.φ rr→({ s.w with heap:=s.w.heap.setIfInBounds (s.φ rr) o } : World).heap[b]?=s.w.heap[b]?:=fun o b _ hne=>by
       show(s.w.heap.setIfInBounds _ _)[b]?=_;rw[qJ (Ne.symm hne)]
      have same:∀o,({ s.w with heap:=s.w.heap.setIfInBounds (s.φ rr) o } : World).heap[s.φ rr]?=some o:=fun o=>by
       show(s.w.heap.setIfInBounds _ _)[_]?=_;simp[hlt]
      rcases hf with⟨f1,f2⟩ | ⟨i,p,mm,f1,f2,f3,f4,f5⟩
      ·have hput:putA k v es=es++[(k,v)]:=by unfold putA;rw[f1]
       rw[hput];refine⟨s.setB { s.w with heap:=s.w.heap.setIfInBounds (s.φ rr) (.map (ms.push { key:=uk,val:=uv,born:=cl }) (cl+1)) } rr (.map kk' (es++[(k,v)])),?_,rfl,?_,bI hg hr (lvM hr) rfl rfl rfl rfl (by simp) (other _)⟩
       ·rw[huk]at *;simp[Instr.mapUpdate,run_underlying hu,MapKept.run_getObj_map h2,L.check _ _ k hkind,f2,MapKept.run_setObj_map _ h2,St.setB]
       ·refine bQ hg hr (lvM hr) rfl rfl rfl rfl (by simp) (other _) (fun hst=>?_);refine⟨fun q hq=>?_,_,_,same _,by simp[h3],fun i q m hq hm=>?_⟩
        ·rcases List.mem_append.1 hq with h | h
         ·exact h0 q h
         ·simp at h;subst h;exact hkind
        ·by_cases hi:i<es.length
         ·rw[oL hi]at hq;rw[Array.getElem?_push,if_neg (by omega)]at hm;exact⟨(h4 i q m hq hm).1.step hst,(h4 i q m hq hm).2.1.step hst⟩
         ·have hil:=aB hq;simp at hil
          obtain rfl:i=es.length:=by omega
          rw[oS (by omega)]at hq;rw[Array.getElem?_push,if_pos (by omega)]at hm;simp at hq hm;subst hq;subst hm;exact⟨hk.step hst,hv.step hst⟩
      ·have hput:putA k v es=es.set i (k,v):=by unfold putA;rw[f1]
       rw[hput]
       have hold:mm.key=uk:=by rw[(h4 i p mm f2 f3).2.2,huk];exact(keyEq_val f4 hkind (h0 p (oH f2))).symm
       have hil:=aB f2;refine⟨s.setB { s.w with heap:=s.w.heap.setIfInBounds (s.φ rr) (.map (ms.modify i fun e=>{ e with key:=uk,val:=uv }) cl) } rr (.map kk' (es.set i (k,v))),?_,rfl,?_,bI hg hr (lvM hr) rfl rfl rfl rfl (by simp) (other _)⟩
       ·have hst:(Instr.keyThatStays uk uk).run P s.w = .ok uk s.w:=by unfold Instr.keyThatStays;rw[huk,sameBits_val hkind];simp
        rw[huk]at hst hold ⊢;simp[Instr.mapUpdate,run_underlying hu,MapKept.run_getObj_map h2,L.check _ _ k hkind,f5,f3,hold,hst,MapKept.run_setObj_map _ h2,St.setB]
       ·refine bQ hg hr (lvM hr) rfl rfl rfl rfl (by simp) (other _) (fun hst=>?_);refine⟨fun q hq=>?_,_,_,same _,by simp[h3],fun j q m hq hm=>?_⟩
        ·rcases pu hq with h | rfl
         ·exact h0 q h
         ·exact hkind
        ·rw[Array.getElem?_modify]at hm;by_cases hj:i=j
         ·subst hj;rw[oX hil]at hq;rw[if_pos rfl,f3]at hm;cases hq;cases hm;exact⟨hk.step hst,hv.step hst⟩
         ·rw[oQ hj]at hq;rw[if_neg hj]at hm;exact⟨(h4 j q m hq hm).1.step hst,(h4 j q m hq hm).2.1.step hst⟩
     ·cases h
    ·cases h
   ·cases h
  ·cases h
 ·cases h
end
end Go.AM
end
