/- JA12: own texts of this seat, joined and shortened by pack4.py: Opb, Bulk, Rnd, Rix, XO, Lft, Cut, XF, FzC. -/
import Derived.Test.YtpedcgdgjoblkaaGreatDoorJA6
import Derived.Test.YtpedcgdgjoblkaaGreatDoorRows
import Derived.RangeFuncFrom
import Derived.RangeFuncLeaves
import Derived.RangeFuncCalls
import Derived.OrdersIn
set_option linter.unusedVariables false
set_option linter.unusedSimpArgs false
set_option maxRecDepth 100000
set_option maxHeartbeats 64000000
open Array renaming getElem?_append→lB,getElem?_setIfInBounds_ne→lx,replicate→mb
open Bool renaming and_eq_true→kR,false_eq_true→kU,or_eq_true→lN
open List renaming replicate→aI,getElem?_eq_getElem→kJ,mem_of_getElem?→kK,getElem?_append_left→kL,getElem_mem→kN,getElem?_append_right→kO,getElem?_set_ne→kP,range→kQ,getElem?_set_self→kW,append_nil→kX,getElem?_map→kb,drop_of_length_le→kf,getElem?_take→kg,length_map→kh,length_cons→kw,take_append_drop→lA,length_take→lC,nil_append→lD,take_of_length_le→lE,mem_of_mem_take→lF,all_eq_true→lM,eq_of_mem_replicate→lP,length_drop→ld,drop_zero→lh,getD_eq_getElem?_getD→lw,take_append_of_le_length→mD,getElem?_range→mY
open Nat renaming le_refl→kM,lt_of_lt_of_le→ka,zero_add→ky,add_assoc→lG,lt_or_ge→lJ,le_trans→lQ,min_eq_left→li,zero_mul→lq,add_zero→mM,zero_le→mV,sub_self→mX
open Option renaming map_some→kx,getD_some→lz
namespace Go.AM
section
open Go Go.Deep
section
structure BulkOk {H:Type} (bk:DataW H→Nat):Prop where
 len:∀es sp,es.length≤bk (.slice es sp)
 elem:∀es sp d,d∈es→bk d≤bk (.slice es sp)
 part:∀ps d,d∈ps→bk d≤bk (.agg ps)
def ShB(T:Ty)(Bd:Nat):Nat→TypeId→List V→Prop
 | 0,_,_=>False
 | n+1,t,vs=>match T t with
  | none=>False
  | some i=>match i.desc with
   | .bool=>∃b,vs=[.bool b]
   | .int k=>∃m,vs=[.int k m]∧(Lit.int k m).wf=true
   | .string=>∃s,vs=[.str s]∧s.size≤maxLen
   | .slice e=>match T e with
    | some j=>∃xs,vs=[.lst j.size false xs]∧xs.length≤maxLen∧xs.length≤Bd∧∀x∈xs,∃ws,ShB T Bd n e ws∧ws.length=j.size∧x=(if bP j.desc then .agg ws else ws.headD .undef)
    | none=>False
   | .struct fs=>vs.length=i.size∧∀f∈fs.toList,∃j,T f.type=some j∧ShB T Bd n f.type ((vs.drop f.offset).take j.size)
   | _=>False
section
variable {P:Program} {T:Ty} {Bd:Nat} {Hd:Type} {enc:TypeId×Value→Hd} {w:World} {held:Bool}
theorem iQ{n tot:Nat}{cs:List Value}(hlen:cs.length=tot):∀(l:List Field) (off:Nat),gE T tot off l=true→off≤tot →
  (∀f∈l,∀j,T f.type=some j→∃vs,CR w vs ((cs.drop f.offset).take j.size)∧ShB T Bd n f.type vs)→
  ∃vs,CR w vs (cs.drop off)∧∀f∈l,∃j,T f.type=some j∧off≤f.offset∧ShB T Bd n f.type ((vs.drop (f.offset-off)).take j.size)
 | [],off,h,hle,_=>by
  simp only[gE,beq_iff_eq]at h;refine⟨[],⟨by simp;omega,by simp,by simp⟩,by simp⟩
 | f::r,off,h,hle,hf=>by
  simp only[gE]at h;split at h
  ·rename_i j hj;simp only[kR,beq_iff_eq]at h;obtain⟨hoff,h⟩:=h;have hle2:off+j.size≤tot:=lay_le r _ h;obtain⟨vs,hcr,hsh⟩:=hf f (by simp) j hj;obtain⟨ws,hcr2,hws⟩:=iQ hlen r (off+j.size) h hle2 (fun g hg=>hf g (by simp[hg]))
   have hvl:vs.length=j.size:=by rw[hcr.len,hoff,lC,ld];omega
   refine⟨vs++ws,?_,fun g hg=>?_⟩
   ·have:=hcr.append hcr2
    rwa [hoff,←List.drop_drop,lA]at this
   ·rcases List.mem_cons.1 hg with rfl | hg
    ·refine⟨j,hj,by omega,?_⟩;rw[hoff,mX,lh,mD (by omega),lE (by omega)];exact hsh
    ·obtain⟨j2,hj2,hle3,hs2⟩:=hws g hg;refine⟨j2,hj2,by omega,?_⟩;rw[List.drop_append,kf (by omega),lD,hvl,show g.offset-off-j.size=g.offset-(off+j.size) by omega];exact hs2
  ·cases h
where
 lay_le {tot:Nat} : ∀(l:List Field) (off:Nat),gE T tot off l=true→off≤tot
  | [],off,h=>by simp only[gE,beq_iff_eq]at h;omega
  | f::r,off,h=>by
   simp only[gE]at h;split at h
   ·simp only[kR]at h;have:=lay_le r _ h.2;omega
   ·cases h
theorem opnB{bk:DataW Hd→Nat}(hB:BulkOk bk)(hT:TOk P T)(hc:∀t i,T t=some i→P.cellsOf t=i.size):∀(n fuel:Nat) (t:TypeId) (cs:List Value) (x:DataW Hd×List MemPlace),ShOk T n t=true→DataW.trod enc P w 0 (fun _=>true) held fuel t cs=some x→bk x.1≤Bd→∃vs,CR w vs cs∧ShB T Bd n t vs
 | 0,_,_,_,_,h,_,_=>by simp[ShOk]at h
 | n+1,fuel,t,cs,x,h,ht,hbd=>by
  simp only[ShOk]at h;split at h
  ·cases h
  ·rename_i i hi;have hu:=hT.und t i hi;have hcell:=hc t i hi;split at h
   ·rename_i hd;rw[hd]at hu
    cases fuel with
    | zero=>simp[DataW.trod]at ht
    | succ m =>
     unfold DataW.trod at ht;rw[hu]at ht;split at ht<;>simp_all;exact⟨_,CR.single (.bool _) rfl,by simp[ShB,hi,hd]⟩
   ·rename_i k hd;rw[hd]at hu
    cases fuel with
    | zero=>simp[DataW.trod]at ht
    | succ m =>
     unfold DataW.trod at ht;rw[hu]at ht;split at ht<;>simp_all;exact⟨_,CR.single (.int _ _) rfl,by simp[ShB, *]⟩
   ·rename_i hd;rw[hd]at hu
    cases fuel with
    | zero=>simp[DataW.trod]at ht
    | succ m =>
     unfold DataW.trod at ht;rw[hu]at ht;split at ht<;>simp_all;exact⟨_,CR.single (.str _) rfl,by simp[ShB, *]⟩
   ·rename_i e hd;rw[hd]at hu;split at h
    ·rename_i j hj;simp only[kR,decide_eq_true_eq,lN,beq_iff_eq]at h;obtain⟨⟨hz,hag⟩,hok⟩:=h
     rcases open_slice hu ht with⟨rfl,_⟩ | ⟨a,len,cap,m,q,D,Pl,rfl,_,hle,hcap,hm,hxe,hel⟩
     ·exact⟨[.lst j.size false []],CR.single (bf _ false _ _ (by simp)) rfl,by simp only[ShB,hi,hd,hj];exact⟨[],rfl,by simp,by simp,by simp⟩⟩
     ·simp only[if_true]at hm;subst hm;rw[hc e j hj]at hel
      have hxb:∀i,i<len→bk (D i)≤Bd:=fun i hi'=>lQ (hB.elem _ _ (D i) (List.mem_map.2 ⟨i,List.mem_range.2 hi',rfl⟩)) (by rw[hxe]at hbd;exact hbd)
      have hlb:len≤Bd:=by
       have h1:=hB.len ((kQ len).map D) ((kQ (m-len)).map fun j=>D (len+j));rw[kh,List.length_range]at h1;rw[hxe]at hbd;exact lQ h1 hbd
      have hex:∀i,i<len→∃ws:List V,ShB T Bd n e ws∧ws.length=j.size∧(∀v∈ws,v.one=true)∧∀(l:Nat) v,ws[l]?=some v→∃c,w.cell? (a.add (i*j.size+l))=some c∧Rel (base (fun _=>False) w) v c:=fun i hil=>by
       obtain⟨cs',h1,h2⟩:=hel i (by omega);obtain⟨ws,hcr,hsh⟩:=opnB hB hT hc n q e cs' _ hok h2 (hxb i hil);obtain⟨_,hcl,hat⟩:=World.cells?_some h1;refine⟨ws,hsh,by rw[hcr.len,hcl],hcr.one,fun l v hv=>?_⟩
       have hl:l<j.size:=by have:=aB hv;rw[hcr.len,hcl]at this;exact this
       have hcv:cs'[l]?=some (cs'[l]'(by omega)):=kJ (by omega);have:=hat l hl;rw[hcv,add_add]at this;exact⟨_,this,hcr.rel l v _ hv hcv⟩
      obtain⟨W,hW⟩:=choose_lt hex
      obtain⟨xs,hxs⟩:∃xs:List V,xs=(kQ len).map fun i=>(if bP j.desc then V.agg (W i) else(W i).headD .undef):=⟨_,rfl⟩
      have hxl:xs.length=len:=by simp[hxs]
      have hxat:∀(i:Nat) y,xs[i]?=some y→i<len∧y=(if bP j.desc then V.agg (W i) else(W i).headD .undef)∧y.cells=W i:=fun i y hy=>by
       have hil:i<len:=by have:=aB hy;omega
       rw[hxs,kb,mY hil]at hy;simp only[kx,Option.some.injEq]at hy;obtain⟨_,hwl,hw1,_⟩:=hW i hil;refine⟨hil,hy.symm,?_⟩;rw[←hy];split
       ·rfl
       ·rename_i hna
        have hz1:j.size=1:=by rcases hag with h | h;exact absurd h hna;exact h
        obtain⟨v,hv⟩:=List.length_eq_one_iff.1 (hwl.trans hz1);rw[hv];exact one_cells (hw1 v (by rw[hv];simp))
      have hsh:∀y∈xs,∃ws,ShB T Bd n e ws∧ws.length=j.size∧y=(if bP j.desc then V.agg ws else ws.headD .undef):=fun y hy=>by
       obtain⟨i,hi'⟩:=List.mem_iff_getElem?.1 hy;obtain⟨hil,hye,_⟩:=hxat i y hi';exact⟨W i,(hW i hil).1,(hW i hil).2.1,hye⟩
      refine⟨[.lst j.size false xs],CR.single ?_ rfl,by simp only[ShB,hi,hd,hj];exact⟨xs,rfl,by omega,by omega,hsh⟩⟩
      ·have hspot:0<len→a.spot=none∧a.block<w.heap.size:=fun h0=>by
        obtain⟨_,hwl,_,hcv⟩:=hW 0 h0;obtain⟨c,hcc,_⟩:=hcv 0 (W 0)[0] (kJ (by omega));simp only[lq,mM]at hcc;have hb:=World.block_lt_of_cell? w _ hcc;have hs:=spot_cell hcc;simpa[Addr.add] using And.intro hs hb
       have:=Rel.lst (s:=base (fun _=>False) w) j.size false xs (some a) m a.block a.off (fun i l=>(w.cell? ⟨a.block,a.off+i*j.size+l,none⟩).getD undef) (by omega) (by simp) (fun h0=>by
         obtain⟨h1,h2⟩:=hspot (by omega)
         exact⟨by cases a;simp_all,h2,fun h=>h,fun k hk=>by have:=hk.1;simp[base]at this⟩)
        (fun y hy=>by
         obtain⟨i,hi'⟩:=List.mem_iff_getElem?.1 hy;obtain⟨hil,_,hyc⟩:=hxat i y hi';rw[hyc]
         exact⟨(hW i hil).2.1,(hW i hil).2.2.1⟩)
        (fun i y l c hy hcc=>by
         obtain⟨hil,_,hyc⟩:=hxat i y hy;rw[hyc]at hcc;obtain⟨u,hu1,_⟩:=(hW i hil).2.2.2 l c hcc;rw[addr_at (hspot (by omega)).1,←lG]at hu1;show w.cell? _=_
         rw[hu1];rfl)
        (fun i y l c hy hcc=>by
         obtain⟨hil,_,hyc⟩:=hxat i y hy;rw[hyc]at hcc;obtain⟨u,hu1,hu2⟩:=(hW i hil).2.2.2 l c hcc;rw[addr_at (hspot (by omega)).1,←lG]at hu1;rw[hu1]
         exact hu2)
       rwa [hxl]at this
    ·cases h
   ·rename_i fs hd;rw[hd]at hu;simp only[kR,lM]at h;obtain⟨xs,q,_,hxe,hlen,hxl,hf⟩:=DataW.trod_struct hu ht;rw[hcell]at hlen
    obtain⟨vs,hcr,hvs⟩:=iQ (T:=T) (Bd:=Bd) (w:=w) (n:=n) hlen fs.toList 0 h.1 (mV _) (fun f hfm j hj=>by
     obtain⟨k,hk⟩:=List.mem_iff_getElem?.1 hfm
     have hk':fs[k]?=some f:=by simpa using hk
     have h1:=hf k f hk'
     have hkl:k<xs.length:=by rw[hxl];exact(Array.getElem?_eq_some_iff.1 hk').1
     rw[kJ hkl,hc f.type j hj]at h1
     exact opnB hB hT hc n q f.type _ _ (h.2 f hfm) h1 (lQ (hB.part _ _ (List.mem_map.2 ⟨_,kN hkl,rfl⟩)) (by rw[hxe]at hbd;exact hbd)))
    rw[lh]at hcr;refine⟨vs,hcr,?_⟩;simp only[ShB,hi,hd];refine⟨by rw[hcr.len,hlen],fun f hfm=>?_⟩;obtain⟨j,hj,_,hs⟩:=hvs f hfm;exact⟨j,hj,by simpa using hs⟩
   ·cases h
end
end
end
end Go.AM
namespace Go.Proofs.YtpedcgdgjoblkaaGreatDoor
section
open Go Go.AM
theorem bulk_one{H:Type}(d:DataW H):1≤Rows.uptoBulk d:=by
 cases d with
 | lit l=>cases l<;>simp[Rows.uptoBulk]
 | nil=>simp[Rows.uptoBulk]
 | ptr d=>simp[Rows.uptoBulk]
 | slice a b=>simp[Rows.uptoBulk]
 | agg l=>simp[Rows.uptoBulk]
 | iface t d=>simp[Rows.uptoBulk]
 | map l=>simp[Rows.uptoBulk]
 | held h=>simp[Rows.uptoBulk]
theorem kE{H:Type}{d:DataW H} : ∀{l:List (DataW H)},d∈l→Rows.uptoBulk d≤Rows.uptoBulkAll l
 | [],h=>by cases h
 | x::r,h=>by
  rw[Rows.uptoBulkAll]
  rcases List.mem_cons.1 h with rfl | h
  ·omega
  ·have:=kE h;omega
theorem bulk_len{H:Type} : ∀l:List (DataW H),l.length≤Rows.uptoBulkAll l
 | []=>by simp
 | x::r=>by
  rw[Rows.uptoBulkAll,kw];have:=bulk_one x;have:=bulk_len r;omega
theorem bulk_ok{H:Type} : BulkOk (H:=H) Rows.uptoBulk where
 len es sp:=by rw[Rows.uptoBulk];have:=bulk_len es;omega
 elem es sp d h:=by rw[Rows.uptoBulk];have:=kE h;omega
 part ps d h:=by rw[Rows.uptoBulk];have:=kE h;omega
theorem bulk_le{H:Type}{l:List (DataW H)}(h:Rows.uptoSmall H l=true):Rows.uptoBulkAll l≤1048576:=of_decide_eq_true h
end
end Go.Proofs.YtpedcgdgjoblkaaGreatDoor
namespace Go.AM
section
open Go
section
section
variable {P:Program} {T:Ty} {l n:Nat}
theorem rows_in{row:String}{args:Array Value}{w:World}{R:Value→World→Prop}(h:Rows P row args w R):RowsIn (Fence.wide.inRound l) n P row args w R :=
 fun c cs _=>let ⟨v,w',r,s⟩:=h c cs;⟨v,w',r,stepsIn_wide.2 s⟩
theorem op_in{o:Oper}(hnd:∀c,o.op≠.defer c){a:Act}{w:World}{next:Act→World→Prop}{Q:Exit→Act→World→Prop}(h:o.wp P a w next Q):o.wpIn (Fence.wide.inRound l) n P a w next Q:=by
 refine⟨fun _ _=>trivial,?_⟩;unfold Oper.wp at h;rw[Oper.semAt_eq _ _ _ hnd];generalize (execOp a.eval o).run P w=r at h ⊢
 have hnone:(Fence.wide.inRound l).depth.isSome=true→1≤n:=fun hh=>by cases hh
 cases r with
 | ok x w' =>
  cases x<;>simp only[Oper.upon,Oper.uponIn]at h ⊢
  all_goals first
   | exact h
   | exact⟨hnone,CallsIn.inRound l ((callsIn_wide.2 h).mono fun e w he=>by cases e<;>exact he)⟩
   | exact⟨hnone,rows_in h⟩
 | halt x w'=>cases x<;>simp only[Oper.upon,Oper.uponIn]at h ⊢<;>exact h
theorem wpOp_in{ops:Array Oper}(hnd:∀(i:Nat) o,ops[i]?=some o→∀c,o.op≠.defer c){Q:Exit→Act→World→Prop}(hQ:¬LetsOut Q){i:Nat}{K K':Act→World→Prop}(hk:∀a w,K a w→K' a w){a:Act}{w:World}(h:wpOp P ops Q i K a w):
  wpOpIn (Fence.wide.inRound l) n P ops Q i K' a w:=by
 unfold wpOp at h;unfold wpOpIn;split
 ·rename_i hi;simp only[hi]at h;exact hk _ _ h
 ·rename_i o ho;simp only[ho]at h;split
  ·rename_i hw;simp only[hw,if_true]at h
   rcases h with h | h
   ·exact Oper.wpIn_mono hk (op_in (hnd i o ho) h)
   ·exact absurd h.2 hQ
  ·rename_i hw;simp only[hw,if_false,kU]at h;exact⟨fun _ _=>trivial,hk _ _ h⟩
theorem jB{md:Region.Mode}{ops:Array Oper}(hnd:∀(i:Nat) o,ops[i]?=some o→∀c,o.op≠.defer c){Q:Exit→Act→World→Prop}(hQ:¬LetsOut Q):∀(fuel:Nat) (listed:Array Bool) (a:Act) (w:World),wpAny P md ops Q fuel listed a w→wpAnyIn (Fence.wide.inRound l) n P md ops Q fuel listed a w
 | 0,_,_,_,h=>h
 | fuel+1,listed,a,w,h=>⟨h.1,fun i hi=>wpOp_in hnd hQ (fun a w hh=>jB hnd hQ fuel _ a w hh) (h.2 i hi)⟩
theorem wpOps_in{ops:Array Oper}(hnd:∀(i:Nat) o,ops[i]?=some o→∀c,o.op≠.defer c){Q:Exit→Act→World→Prop}(hQ:¬LetsOut Q):∀(is:List Nat) (a:Act) (w:World),wpOps P ops Q is a w→wpOpsIn (Fence.wide.inRound l) n P ops Q is a w
 | [],_,_,h=>h
 | i::rest,a,w,h=>by
  have h1:wpOp P ops Q i (wpOps P ops Q rest) a w:=by
   unfold wpOp;simp only[wpOps]at h;exact h
  have h2:=wpOp_in (l:=l) (n:=n) hnd hQ (K':=wpOpsIn (Fence.wide.inRound l) n P ops Q rest) (fun a w hh=>wpOps_in hnd hQ rest a w hh) h1;unfold wpOpIn at h2;simp only[wpOpsIn];exact h2
def ec(ops:Array Oper):Bool:=ops.toList.all fun o=>match o.op with
 | .defer _=>false
 | _=>true
theorem eZ{ops:Array Oper}(h:ec ops=true)(i:Nat)(o:Oper)(ho:ops[i]?=some o):∀c,o.op≠.defer c:=fun c e=>by
 have h1:=List.all_eq_true.1 h o (by
  have:=Array.getElem?_eq_some_iff.1 ho;obtain⟨hl,rfl⟩:=this
  simp)
 rw[e]at h1;cases h1
def WR(P:Program)(l n:Nat)(c:Code)(Q:Exit→List V→List B→Prop)(fr:List V)(H:List B):Prop :=
 ∀(s:St) (a:Act),At P s H→Good s→FRel s fr a.tmps→a.defers=[]→c.wpIn (Fence.wide.inRound l) n P (fA s Q) a s.w
def NoOut(Q:Exit→List V→List B→Prop):Prop:=∀fr H,¬Q .outgrown fr H
theorem dm{Q:Exit→List V→List B→Prop}(h:NoOut Q)(s:St):¬LetsOut (fA s Q):=fun⟨_,_,fr,s',_,_,_,_,_,hq⟩=>h fr s'.H hq
theorem WR_region(hT:TOk P T){id:Nat}{ops:Array Oper}(hnd:ec ops=true){Q:Exit→List V→List B→Prop}(hQ:NoOut Q){fr:List V}{H:List B}
  (h:∀(C:V→List V→List B→(V→List B→Prop)→Prop) (K:List V→List B→Prop),(∀fv args H K',aM P fv args H K'→C fv args H K')→(∀fr H,Q .normal fr H→K fr H)→eB T ops C K ops.toList fr H):WR P l n (.region id ops false) Q fr H:=by
 intro s a hH hg hf hd;obtain⟨rfl,hz⟩:=hH;refine wpIn_region (wpOps_in (eZ hnd) (dm hQ s) _ _ _ ?_);have:=gq hT (Q:=fA s Q) ops.toList 0 s fr a (by simp) hz hg hf hd (h _ _ (fun _ _ _ _ h=>h) (fun _ _ h=>h)) (fun s' fr' a' k1 k2 k3 k4 k5=>⟨fr',s',rfl,k1,k2,k3,k4,k5⟩);simpa using this
theorem WR_drawT(hT:TOk P T)(hm:P.follows .mixedOrders=true){id:Nat}{ops:Array Oper}(hnd:ec ops=true){Q:Exit→List V→List B→Prop}(hQ:NoOut Q){fr:List V}{H:List B}(E:List Nat)(tab:List (Nat×List Nat))(cv:List (V×List B))(hst:statT ops E tab=true)
  (h:∀(C:V→List V→List B→(V→List B→Prop)→Prop) (K:List V→List B→Prop),(∀fv args H K',aM P fv args H K'→C fv args H K')→(∀fr H,Q .normal fr H→K fr H)→DrawT T ops E tab cv C K fr H):WR P l n (.region id ops true) Q fr H :=
 fun s a hH hg hf hd=>wpIn_region_any hm (jB (eZ hnd) (dm hQ s) _ _ _ _ (jt hT E cv (fun C K hC hK=>drawT_ob E tab cv hst (h C K hC hK)) s a hH hg hf hd))
theorem WR_quiet(hT:TOk P T)(hm:P.follows .mixedOrders=true){id:Nat}{ops:Array Oper}(hnd:ec ops=true){Q:Exit→List V→List B→Prop}(hQ:NoOut Q){fr:List V}{H:List B}(cv:List V)(hst:eR ops []=true)
  (h:∀(C:V→List V→List B→(V→List B→Prop)→Prop) (K:List V→List B→Prop),(∀fv args H K',aM P fv args H K'→C fv args H K')→(∀fr H,Q .normal fr H→K fr H)→gb T ops C K ops.toList fr H cv):WR P l n (.region id ops true) Q fr H :=
 fun s a hH hg hf hd=>wpIn_region_any hm (jB (eZ hnd) (dm hQ s) _ _ _ _ (jt hT [] (cv.map fun v=>(v,[])) (fun C K hC hK=>quiet_ob cv hst (h C K hC hK)) s a hH hg hf hd))
theorem WR.mono{c:Code}{Q Q':Exit→List V→List B→Prop}{fr:List V}{H:List B}(h:WR P l n c Q fr H)(hq:∀e fr H,Q e fr H→Q' e fr H):WR P l n c Q' fr H:=fun s a h1 h2 h3 h4 =>
 wpIn_mono (h s a h1 h2 h3 h4) fun _ _ _ ⟨fr,s',a1,a2,a3,a4,a5,a6⟩=>⟨fr,s',a1,a2,a3,a4,a5,hq _ _ _ a6⟩
theorem WR_skip{Q:Exit→List V→List B→Prop}{fr:List V}{H:List B}(h:Q .normal fr H):WR P l n .skip Q fr H:=fun s _a h1 h2 h3 h4=>wpIn_skip ⟨fr,s,rfl,h2,Step.refl s,h3,h4,h1.1▸h⟩
theorem WR_exit{id:Nat}{Q:Exit→List V→List B→Prop}{fr:List V}{H:List B}(h:Q (.exit id) fr H):WR P l n (.exit id) Q fr H:=fun s _a h1 h2 h3 h4=>wpIn_exit ⟨fr,s,rfl,h2,Step.refl s,h3,h4,h1.1▸h⟩
theorem WR_seq{x y:Code}{Q:Exit→List V→List B→Prop}{fr:List V}{H:List B}(h:WR P l n x (eO (WR P l n y Q) Q) fr H):WR P l n (.seq x y) Q fr H:=fun s a h1 h2 h3 h4=>by
 refine wpIn_seq (wpIn_mono (h s a h1 h2 h3 h4) fun e a' w' hl=>?_);obtain⟨fr',s',rfl,a2,a3,a4,a5,a6⟩:=hl
 cases e with
 | normal=>exact wpIn_mono (a6 s' a' ⟨rfl,h1.2.step a3⟩ a2 a4 a5) fun _ _ _ hl'=>bX a3 hl'
 | _=>exact⟨fr',s',rfl,a2,a3,a4,a5,a6⟩
theorem WR_cond{c:Operand}{x y:Code}{Q:Exit→List V→List B→Prop}{fr:List V}{H:List B}{b:Bool}(hc:aL fr c = .bool b)(h:WR P l n (if b then x else y) Q fr H):WR P l n (.cond c x y) Q fr H:=fun s a h1 h2 h3 h4=>by
 have hr:=h3.eval c;rw[hc]at hr;generalize hu:a.eval c=u at hr;cases hr;exact wpIn_cond hu (h s a h1 h2 h3 h4)
theorem WR_block{id:Nat}{c:Code}{Q:Exit→List V→List B→Prop}{fr:List V}{H:List B}(h:WR P l n c (cM id Q) fr H):WR P l n (.block id c) Q fr H:=fun s a h1 h2 h3 h4=>by
 refine wpIn_block (wpIn_mono (h s a h1 h2 h3 h4) fun e a' w' hl=>?_);obtain⟨fr',s',a1,a2,a3,a4,a5,a6⟩:=hl
 cases e with
 | exit id' =>
  simp only[Exit.inBlock,cM]at a6 ⊢;split
  ·rename_i hid;rw[if_pos hid]at a6;exact⟨fr',s',a1,a2,a3,a4,a5,a6⟩
  ·rename_i hid;rw[if_neg hid]at a6;exact⟨fr',s',a1,a2,a3,a4,a5,a6⟩
 | _=>exact⟨fr',s',a1,a2,a3,a4,a5,a6⟩
def LR(P:Program)(l n:Nat)(c:Code)(Q:Exit→List V→List B→Prop)(_:QTag Q)(fr:List V)(H:List B):Prop:=WR P l n c Q fr H
theorem lr_of{c:Code}{Q:Exit→List V→List B→Prop}{t:QTag Q}{fr:List V}{H:List B}(h:WR P l n c Q fr H):LR P l n c Q t fr H:=h
def iS:Code→Bool
 | .region _ ops _=>ec ops
 | .seq a b=>iS a&&iS b
 | .cond _ a b=>iS a&&iS b
 | .block _ a=>iS a
 | .skip | .exit _=>true
 | _=>false
theorem fT(hT:TOk P T)(hm:P.follows .mixedOrders=true):∀(c:Code) (Q:Exit→List V→List B→Prop) (fr:List V) (H:List B),iS c=true→NoOut Q→WX T (aM P) (LR P l n) c Q fr H→WR P l n c Q fr H
 | .skip,Q,fr,H,_,_,h=>WR_skip h
 | .region id ops false,Q,fr,H,hd,hQ,h=>by
  intro s a h1 h2 h3 h4;refine WR_region hT hd hQ (fun C K hC hK=>?_) s a h1 h2 h3 h4;have:=fp (C:=aM P) (fun _ _ _ _ _ hk hc=>hc.mono hk) _ _ _ h;refine bQ.WOps_mono hC _ _ _ ?_;exact iJ.wops_k (fun fr H hq=>hK fr H hq) _ _ _ this
 | .region id ops true,Q,fr,H,hd,hQ,h=>by
  simp only[WX]at h
  rcases h with h | h
  ·exact h
  split at h
  ·exact h.elim
  obtain⟨hst,h⟩:=h;obtain⟨cv,hq⟩:=fo _ _ _ h;intro s a h1 h2 h3 h4;refine WR_quiet hT hm hd hQ cv (fu hst (by simp[fw,fk])) (fun C K hC hK=>?_) s a h1 h2 h3 h4;exact iJ.qops_mono hC hK _ _ _ _ hq
 | .cond c a b,Q,fr,H,hd,hQ,h=>by
  simp only[iS,kR]at hd;simp only[WX]at h;split at h
  ·rename_i t ht;refine WR_cond ht ?_
   cases t with
   | true=>exact fT hT hm a Q fr H hd.1 hQ (by simpa using h)
   | false=>exact fT hT hm b Q fr H hd.2 hQ (by simpa using h)
  ·exact h.elim
 | .seq a b,Q,fr,H,hd,hQ,h=>by
  simp only[iS,kR]at hd
  exact WR_seq ((fT hT hm a (eO (WX T (aM P) (LR P l n) b Q) Q) fr H hd.1 (fun fr H hq=>hQ fr H hq) h).mono fun e fr' H' hq=>by
   cases e with
   | normal=>exact fT hT hm b Q fr' H' hd.2 hQ hq
   | _=>exact hq)
 | .block id c,Q,fr,H,hd,hQ,h=>WR_block (fT hT hm c (cM id Q) fr H hd (fun fr H hq=>hQ fr H hq) h)
 | .exit id,Q,fr,H,_,_,h=>WR_exit h
 | .ret,_,_,_,hd,_,_=>by cases hd
 | .loop _,_,_,_,hd,_,_=>by cases hd
 | .rangeFunc ..,_,_,_,hd,_,_=>by cases hd
 | .scope _,_,_,_,hd,_,_=>by cases hd
 | .label _,_,_,_,hd,_,_=>by cases hd
 | .goto _,_,_,_,hd,_,_=>by cases hd
 | .refuse _,_,_,_,hd,_,_=>by cases hd
def NoMap(H:List B):Prop:=∀(k:Nat) kk es,H[k]?≠some (.map kk es)
theorem cells_at{s:St}(hg:Good s)(hm:NoMap s.H){k:Nat}(h:Lv s k):∃o,s.w.heap[s.φ k]?=some o∧o.isCells=true:=by
 obtain⟨bl,hbk⟩:∃bl,s.H[k]?=some bl:=⟨_,kJ h.1⟩;have hb:=hg.blk k bl hbk
 cases bl with
 | cells cs=>obtain⟨_,vs,t,h2,_⟩:=hb;exact⟨_,h2,rfl⟩
 | map kk es=>exact absurd hbk (hm k kk es)
 | buf e z xs fz=>obtain⟨vs,h2,_⟩:=hb;exact⟨_,h2 (h.2 _ _ _ _ hbk),rfl⟩
theorem Rel.turn{s:St}{w':World}(hsz:s.w.heap.size≤w'.heap.size)(hc:∀a u,s.w.cell? a=some u→w'.cell? a=some u){v:V}{u:Value}(h:Rel s v u):Rel (s.at w') v u:=by
 have hP:∀{b},s.Prot b→(s.at w').Prot b:=fun {b} hp=>⟨ka hp.1 hsz,hp.2.1,hp.2.2⟩
 induction h with
 | undef u=>exact .undef u
 | bool b=>exact .bool b
 | int k n=>exact .int k n
 | str x=>exact .str x
 | nilS=>exact .nilS
 | lst z full xs A cap b off u hcap hfull hA hz hcell hrel ih=>exact .lst z full xs A cap b off u hcap hfull (fun h0=>⟨(hA h0).1,hP (hA h0).2⟩) hz (fun i x j c hi hj=>hc _ _ (hcell i x j c hi hj)) ih
 | buf k off len tot e z xs fz A l c hk ht hh=>exact .buf k off len tot e z xs fz A l c hk ht hh
 | nilP=>exact .nilP
 | ptr k off cs hk=>exact .ptr k off cs hk
 | pin cs off b o u hp h1 hcell hrel ih=>exact .pin cs off b o u (hP hp) h1 (fun j c hj=>hc _ _ (hcell j c hj)) ih
 | pbuf k i off tot e z xs fz p hk ht hh=>exact .pbuf k i off tot e z xs fz p hk ht hh
 | sarr k n cs hk=>exact .sarr k n cs hk
 | nilM=>exact .nilM
 | map k kk es hk=>exact .map k kk es hk
 | fn f caps us hl _ ih=>exact .fn f caps us hl ih
 | nilFn=>exact .nilFn
 | agg cs us hl h1 _ ih=>exact .agg cs us hl h1 ih
 | tup vs us hl _ ih=>exact .tup vs us hl ih
theorem gh{s0 s:St}(hg0:Good s0)(hg:Good s)(hs:Step s0 s)(hm:NoMap s.H){w':World}{row:Option Nat}(hgr:s.w.grownBy w' row)(hr:∀r,row=some r→s0.w.heap.size≤r∧∃o,s.w.heap[r]?=some o∧o.isCells=false):
  Good (s.at w')∧Step s0 (s.at w')∧∀v u,Rel s v u→Rel (s.at w') v u:=by
 have hblk:∀k,Lv s k→w'.heap[s.φ k]?=s.w.heap[s.φ k]?:=fun k hk=>hgr.block _ (hg.lt k hk).1 (fun e=>by
  obtain⟨_,o,h1,h2⟩:=hr _ e.symm;obtain⟨o',h3,h4⟩:=cells_at hg hm hk;rw[h1]at h3;cases h3;rw[h2]at h4
  cases h4)
 have hc:∀a u,s.w.cell? a=some u→w'.cell? a=some u:=fun a u h=>by
  have hlt:a.block<s.w.heap.size:=by
   by_cases hl:a.block<s.w.heap.size
   ·exact hl
   ·unfold World.cell? at h;rw[Array.getElem?_eq_none (by omega)]at h;cases h
  rw[World.cell?_of_block (hgr.block _ hlt (fun e=>by
   obtain⟨_,o,h1,h2⟩:=hr _ e.symm;unfold World.cell? at h;rw[h1]at h
   cases o<;>simp[Obj.isCells]at h2 h))]
  exact h
 have hrel:∀v u,Rel s v u→Rel (s.at w') v u:=fun v u h=>h.turn hgr.size hc
 refine⟨⟨fun b h=>ka (hg.fl b h) hgr.size,fun k hk=>⟨ka (hg.lt k hk).1 hgr.size,(hg.lt k hk).2⟩,hg.inj,fun k bl hk=>?_⟩,⟨hs.F,hgr.os.trans hs.os,hgr.tape.trans hs.tape,hgr.output.trans hs.output,lQ hs.size hgr.size,fun b hb hn=>?_,hs.len,hs.new,fun k bl hk=>?_⟩,hrel⟩
 ·have hb:=hg.blk k bl hk
  cases bl with
  | cells cs =>
   obtain⟨h1,vs,t,h2,h3,h4⟩:=hb;exact⟨h1,vs,t,(hblk k (lvC hk)).trans h2,h3,fun i c u a b=>hrel _ _ (h4 i c u a b)⟩
  | map kk es=>exact absurd hk (hm k kk es)
  | buf e z xs fz =>
   obtain⟨vs,h2,h3,h4,h5,h6,h7⟩:=hb;exact⟨vs,fun hz=>(hblk k (lvB hk hz)).trans (h2 hz),h3,h4,h5,h6,fun i x j c u a b d=>hrel _ _ (h7 i x j c u a b d)⟩
 ·rw[show(s.at w').w.heap[b]?=s.w.heap[b]? from hgr.block _ (ka hb hs.size) (fun e=>by
   have:=(hr _ e.symm).1
   omega)]
  exact hs.out b hb hn
 ·have hst:=hs.keep k bl hk
  cases bl with
  | cells cs=>exact hst
  | map kk es=>exact hst
  | buf e z xs fz =>
   obtain⟨xs',fz',h1,h2,h3,h4,h5,h6⟩:=hst;refine⟨xs',fz',h1,h2,h3,fun hf=>⟨(h4 hf).1,(h4 hf).2.1,fun hz=>?_⟩,h5,h6⟩
   rw[show(s.at w').w.heap[s0.φ k]?=s.w.heap[s0.φ k]? from hgr.block _ (ka (hg0.lt k (lvB hk hz)).1 hs.size) (fun e=>by
    have:=(hr _ e.symm).1;have:=(hg0.lt k (lvB hk hz)).1
    omega)]
   exact(h4 hf).2.2 hz
theorem fR{s s':St}(hg:Good s)(hm:NoMap s.H)(h:Step s s'):KeepsOthers s.w s'.w :=
 ⟨h.size,fun k o hk ho=>by
  rw[h.out k (Array.getElem?_eq_some_iff.1 hk).1 (fun i hi e=>by
   obtain⟨o',h1,h2⟩:=cells_at hg hm hi;rw[e,hk]at h1;cases h1;rw[ho]at h2
   cases h2)]
  exact hk⟩
end
end
end
end Go.AM
namespace Go.AM
section
open Go Go.RowKit
section
section
variable {F:Fence} {n:Nat} {P:Program}
def SeqIx(F:Fence)(n:Nat)(P:Program)(g:Nat)(lb:Array Value)(encs:Nat→Array Value)(Kp:World→World→Prop)(N:Nat)(w:World):Prop :=
 ∀(l:Nat) (J:Nat→World→Prop) (W:World),Below w.heap.size w W→AbidesFrom W.heap.size J →
  (∀k W1,J k W1→k<N→YieldAt F (n-1) P l (encs k) W1 fun e W'=>e = .returned (.bool true)∧J (k+1) W'∧Kp W1 W')→J 0 W →
  CallsIn F n P g (#[.func (.yield l) #[] #[]]++lb) W fun e W'=>(∃v,e = .returned v)∧J N W'
def postIx(Kp:World→World→Prop)(I:Nat→World→Prop)(k:Nat)(W:World):Exit→Act→World→Prop
 | .normal,_,W'=>KeepsOthers W W'∧Kp W W'∧I k W'
 | _,_,_=>False
theorem fq{g:Operand}{ps:Array Tmp}{assign body:Code}{Q:Exit→Act→World→Prop}{a:Act}{w:World}
  (hro:F.round=none) (h1:1≤n) {gf:Nat} {lb:Array Value} (hg:a.eval g = .func (.func gf) #[] lb) (hFg:F.fn gf) (eg:∀args w,(callFunc gf args).run P w = .ok (.enter gf args) w)
  {encs:Nat→Array Value} {Kp:World→World→Prop} {N:Nat} {w0:World} (hseq:SeqIx F (n-1) P gf lb encs Kp N w0)
  (hKt:∀{A B C:World},Kp A B→Kp B C→Kp A C) (hKb:∀(W:World) (l:Nat) (o o':Obj),w.heap.size≤l→W.heap[l]?=some o→o.isCells=false→o.isWalk=false→Kp W (W.putObj l o')) (hb0:Below w0.heap.size w0 w) (hps:∀x,(encs x).size=ps.size)
  (I:Nat→World→Prop) (hI:OwnFrom w.heap.size I) (h0:I 0 w) (IB:Nat→Act→World→Prop) (hIB:∀a,OwnFrom w.heap.size (fun k W=>IB k a W))
  (hassign:∀(l:Nat) (k:Nat) (W:World),I k W→k<N →
   assign.wpIn (F.inRound l) (n-1-1) P (Exit.then (fun a1 W1=>KeepsOthers W W1∧Kp W W1∧IB k a1 W1) (fun _ _ _=>False)) { tmps:=(ps.zip (encs k)).foldl (fun t (p,v)=>t.setIfInBounds p v) a.tmps,defers:=[] } W)
  (hbody:∀(l:Nat) (k:Nat) (a1:Act) (W:World),IB k a1 W→k<N→body.wpIn (F.inRound l) (n-1-1) P (postIx Kp I (k+1) W) a1 W)
  (hdone:∀(D:Nat) (W:World),w.heap.size≤D→I N W→W.heap[D]?=some (.deferred (some []))→Q .normal { a with defers:={ target:=.collected D,args:=#[] }::a.defers } W):
  (Code.rangeFunc g ps assign body).wpIn F n P Q a w:=by
 refine wpIn_rangeFunc ?_;intro fn hfn;rw[hro]
 obtain⟨rec,hrec⟩:∃rec:LoopState→Option Code→Loop,rec=fun st pe=>{ state:=st,pending:=pe,fn,tmps:=a.tmps,params:=ps,assign,body,defers:=w.heap.size }:=⟨_,rfl⟩
 obtain⟨W1,hW1⟩:∃W1,(w.alloc (.deferred (some []))).alloc (.loop (rec .ready none))=W1:=⟨_,rfl⟩
 have hL1:W1.heap[w.heap.size+1]?=some (.loop (rec .ready none)):=by
  rw[←hW1];have:=World.alloc_heap_new (w.alloc (.deferred (some []))) (.loop (rec .ready none));rwa [World.size_alloc]at this
 have hK1:W1.heap[w.heap.size]?=some (.deferred (some [])):=by
  rw[←hW1];exact(Below.heap_alloc _ _ _ (by simp)).trans (World.alloc_heap_new w _)
 have hI1:I 0 W1:=by rw[←hW1];exact hI.alloc _ (hI.alloc _ h0)
 have hb1:Below w0.heap.size w0 W1:=by
  rw[←hW1];exact hb0.trans ((((Below.refl _ w).alloc (kM _) _).alloc (by simp) _).mono hb0.size)
 refine⟨w.heap.size+1,[{ target:=.collected w.heap.size,args:=#[] }],W1,{ target:=.fn (.func gf) lb,args:=#[.func (.yield (w.heap.size+1)) #[] #[]] },W1,gf,
  #[.func (.yield (w.heap.size+1)) #[] #[]]++lb,W1,?_,?_,?_,?_,fun _=>h1,?_⟩
 ·rw[←hW1,hrec];exact run_enterLoop_outer _ _ _ _ _
 ·simp only[resolve,hg];simp[go_sem]
 ·intro f' hf';simp[Target.leads]at hf';subst hf';exact hFg
 ·simp[invoke,go_sem,eg]
 ·have hnw:∀{A B:World} {row:Option Nat},(∀r,row=some r→W1.heap.size≤r∧∃o:Obj,A.heap[r]?=some o∧o.isWalk=true)→(∀r,row=some r→w.heap.size≤r∧∃o:Obj,A.heap[r]?=some o∧o.isCells=false):=
   fun hr r e=>by obtain⟨hB,o,ho,hw⟩:=hr r e;exact⟨by rw[←hW1]at hB;simp at hB;omega,o,ho,Obj.not_cells_of_walk hw⟩
  refine(hseq (w.heap.size+1)
   (fun k W=>I k W∧W.heap[w.heap.size+1]?=some (.loop (rec .ready none))∧W.heap[w.heap.size]?=some (.deferred (some [])))
   W1 hb1
   (fun s A B row hs hg' hr=>⟨hI s A B row hs.1 hg' (hnw (B:=B) hr),(grownBy_keeps hg' (fun r e=>(hr r e).2) hs.2.1 rfl).trans hs.2.1,(grownBy_keeps hg' (fun r e=>(hr r e).2) hs.2.2 rfl).trans hs.2.2⟩)
   ?_ ⟨hI1,hL1,hK1⟩).mono ?_
  ·rintro k W ⟨hi,hl,hk⟩ hlen;have hlt:w.heap.size+1<W.heap.size:=(Array.getElem?_eq_some_iff.1 hl).1;have hy:=run_yield (P:=P) (args:=encs k) hl (by rw[hrec];exact hps k);rw[hrec]at hy;refine⟨fn,_,assign,body,hy,roundIn_of_wpIn hfn (wpIn_mono (hassign _ k W hi hlen) ?_)⟩;rintro e0 a0 V0 hp0
   have hen:e0 = .normal:=by cases e0<;>first | rfl | exact hp0.elim
   subst hen;obtain⟨hkA,hkpA,hib⟩:=hp0;have hlA:=hkA.same _ _ hl rfl;have hkA2:=hkA.same _ _ hk rfl;have hltA:w.heap.size+1<V0.heap.size:=(Array.getElem?_eq_some_iff.1 hlA).1;refine⟨_,run_beginRound hlA (by rw[hrec]),?_⟩;have hl2:(V0.putObj (w.heap.size+1) (.loop { rec .ready none with state:=.busy })).heap[w.heap.size+1]?=some (.loop { rec .ready none with state:=.busy }):=World.putObj_heap_same hltA;have hk2:(V0.putObj (w.heap.size+1) (.loop { rec .ready none with state:=.busy })).heap[w.heap.size]?=some (.deferred (some [])):=(World.putObj_heap_other (by omega)).trans hkA2;have hw2:Kp W (V0.putObj (w.heap.size+1) (.loop { rec .ready none with state:=.busy })):=hKt hkpA (hKb _ _ _ _ (by omega) hlA rfl rfl);refine wpIn_mono (hbody _ k a0 _ ((hIB a0).putObj _ hib (by omega) hlA rfl) hlen) ?_
   have fin:∀(jump:Option Code) (W3:World),KeepsOthers (V0.putObj (w.heap.size+1) (.loop { rec .ready none with state:=.busy })) W3 →
     (Instr.endRound (w.heap.size+1) jump).run P W3 = .ok (.bool jump.isNone) (W3.putObj (w.heap.size+1) (.loop (rec (if jump.isNone then .ready else .done) jump)))∧
     W3.heap[w.heap.size+1]?=some (.loop { rec .ready none with state:=.busy })∧
     (W3.putObj (w.heap.size+1) (.loop (rec (if jump.isNone then .ready else .done) jump))).heap[w.heap.size+1]?=some (.loop (rec (if jump.isNone then .ready else .done) jump))∧
     (W3.putObj (w.heap.size+1) (.loop (rec (if jump.isNone then .ready else .done) jump))).heap[w.heap.size]?=some (.deferred (some [])):=fun jump W3 hk3=>by
    have hl3:=hk3.same _ _ hl2 rfl;have:=run_endRound (P:=P) jump hl3;rw[hrec]at this ⊢;exact⟨this,by rw[hrec]at hl3;exact hl3,World.putObj_heap_same (Array.getElem?_eq_some_iff.1 hl3).1,(World.putObj_heap_other (by omega)).trans (hk3.same _ _ hk2 rfl)⟩
   rintro e a3 W3 hp
   cases e with
   | normal =>
    obtain⟨hk3,hkp3,hi3⟩:=hp;obtain⟨hr,hl3,hl4,hk4⟩:=fin none W3 hk3;exact⟨_,_,hr,rfl,⟨hI.putObj _ hi3 (by omega) hl3 rfl,hl4,hk4⟩,hKt (hKt hw2 hkp3) (hKb _ _ _ _ (by omega) hl3 rfl rfl)⟩
   | ret=>exact hp.elim
   | exit id=>exact hp.elim
   | goto t=>exact hp.elim
   | panic ch=>exact hp.elim
   | outgrown=>exact hp.elim
  ·rintro e W2 ⟨⟨v,rfl⟩,hi,hl,hk⟩;exact⟨none,_,by have:=run_endLoop (P:=P) hl (by rw[hrec];simp);rw[hrec]at this;exact this,hdone _ _ (kM _) (hI.putObj _ hi (by omega) hl rfl) ((World.putObj_heap_other (by omega)).trans hk)⟩
end
section
variable {P:Program} {T:Ty}
theorem rel_aggL{s:St}{cs:List V}{us:List Value}(hl:us.length=cs.length)(h1:∀c∈cs,c.one=true)(h:∀(j:Nat) c u,cs[j]?=some c→us[j]?=some u→Rel s c u):Rel s (.agg cs) (.agg us.toArray):=
 .agg cs us.toArray (by simpa using hl) h1 (fun i c u hc hu=>h i c u hc (by simpa using hu))
theorem frel_set{s:St}{fr:List V}{tmps:Array Value}(h:FRel s fr tmps){t:Nat}{v:V}{u:Value}(hv:Rel s v u):FRel s (fr.set t v) (tmps.setIfInBounds t u):=by
 refine⟨by simp[h.len],fun i x y hx hy=>?_⟩;by_cases hi:i=t
 ·subst hi;have hl:=aB hx;simp at hl;rw[kW hl]at hx
  have:i<tmps.size:=by have:=h.len;omega
  simp[this]at hy;cases hx;subst hy;exact hv
 ·rw[kP (Ne.symm hi)]at hx;rw[lx (Ne.symm hi)]at hy;exact h.rel i x y hx hy
def KpS(S:Nat→Prop)(A B:World):Prop:=∀x,S x→B.heap[x]?=A.heap[x]?
theorem jx(hT:TOk P T){f:FuncId}{fn:Func}{c0 c1 asg body:Code}{out p0 p1 gf z:Nat}{g:Operand}
  (hf:P.funcs[f]?=some fn) (hb:fn.body=some (.seq c0 (.seq c1 (.block out (.rangeFunc g #[p0,p1] asg body))))) (hn:(fn.name == "runtime.NumGoroutine")=false) (hres:fn.results = #[]) (hne:p0≠p1)
  (eg:∀args w,(callFunc gf args).run P w = .ok (.enter gf args) w)
  {args:List V} {H:List B} (fr1 frM:List V) (hm:gc frM fr1) (Hs HB:Nat→List B) (frB:Nat→List V) (xs:List V) (fl:Bool) (N:Nat) (hN:N=xs.length)
  (hhead:W P c0 (fun e fr H'=>e = .normal∧W P c1 (fun e fr H'=>e = .normal∧fr=fr1∧H'=Hs 0++[.cells [.lst z fl xs]]) fr H') (args++aI (fn.ntmps-args.length) (.tup [])) H)
  (hg:aL fr1 g = .fn gf [.ptr (Hs 0).length 0]) (hHl:H.length≤(Hs 0).length) (hrb0:∀v∈frM,rb (Hs 0).length v) (hrb:∀k,k≤N→∀bl∈Hs k,rbB (Hs k).length bl) (hlen:∀k,k≤N→(Hs k).length=(Hs 0).length)
  (hnm:∀k,k≤N→NoMap (Hs k)) (hnB:∀k,k<N→NoMap (HB k)) (hx:∀x∈xs,∃cs,x = .agg cs∧cs.length=z∧∀c∈cs,c.one=true∧Pure c)
  (hit:∀(Bs b off cap:Nat) (us:Nat→Nat→Value) (w:World),Bs<w.heap.size→b<w.heap.size→w.cell? ⟨Bs,0,none⟩=some (.slice (if N=0 then none else some ⟨b,off,none⟩) N cap)∨(N=0∧∃A,w.cell? ⟨Bs,0,none⟩=some (.slice A 0 cap))→
   (∀i,i<N→∀j,j<z→w.cell? ⟨b,off+i*z+j,none⟩=some (us i j))→(∀i,i<N→∀j,j<z→(us i j).oneCell'=true)→
   SeqIx Fence.wide 19 P gf #[.pointer (some ⟨Bs,0,none⟩)] (fun k=>#[.int .i64 ((N-1-k:Nat):Int),.agg ((kQ z).map (us (N-1-k))).toArray]) (KpS fun x=>x=Bs∨x=b) N w)
  (hasg:∀k,k<N→∀l m,WR P l m asg (fun e fr H'=>e = .normal∧fr=frB k∧H'=HB k) ((frM.set p0 (.int .i64 ((N-1-k:Nat):Int))).set p1 (xs.getD (N-1-k) .undef)) (Hs k))
  (hbody:∀k,k<N→∀l m,WR P l m body (fun e fr H'=>e = .normal∧∃G,H'=Hs (k+1)++G) (frB k) (HB k)):
  aT P f args H fun r H'=>r = .tup []∧H'=Hs N:=by
 refine⟨⟨fn,hf,by rw[hb];rfl,hn⟩,fun s vals hH hgood hsz hrel=>?_⟩;refine(callsIn_wide (n:=20)).1 (callsIn_of_wp_marks hf hb trivial ?_)
 have hfr:FRel s (args++aI (fn.ntmps-args.length) (.tup [])) (vals++mb (fn.ntmps-vals.size) undef):=by
  refine⟨by simp[hsz],fun i v u hv hu=>?_⟩;by_cases hi:i<args.length
  ·rw[kL hi]at hv;rw[lB,if_pos (by omega)]at hu;exact hrel i v u hv hu
  ·rw[kO (by omega)]at hv;rw[lB,if_neg (by omega)]at hu;have e1:=lP (kK hv)
   have e2:u=undef:=by simp[Array.getElem?_replicate]at hu;exact hu.2.symm
   subst e1;subst e2;exact .tup [] #[] rfl (by simp)
 refine wpIn_seq (wpIn_mono (wpIn_wide.2 (hhead s _ hH hgood hfr rfl)) fun e a1 w1 hl=>?_);obtain⟨fr',s1,rfl,g1,st1,f1,d1,rfl,hW1⟩:=hl;have hz1:GOk P s1:=hH.2.step st1;refine wpIn_seq (wpIn_mono (wpIn_wide.2 (hW1 s1 a1 ⟨rfl,hz1⟩ g1 f1 d1)) fun e a2 w2 hl=>?_);obtain⟨fr'',s2,rfl,g2,st2,f2,d2,rfl,hfr1,hH2⟩:=hl;rw[hfr1]at f2;have st02:Step s s2:=st1.trans st2;have hz2:GOk P s2:=hz1.step st2;obtain⟨L,hL⟩:∃L,L=(Hs 0).length:=⟨_,rfl⟩;rw[←hL]at hg hHl hrb0 hlen
 have hkb:s2.H[L]?=some (.cells [.lst z fl xs]):=by rw[hH2,kO (by omega),hL];simp
 obtain⟨_,vs,tt,hv1,hv2,hv3⟩:=g2.blk L _ hkb
 obtain⟨lv,rfl⟩:∃lv,vs = #[lv]:=by
  obtain⟨l⟩:=vs
  match l,hv2 with
  | [a],_=>exact⟨a,rfl⟩
 have hrl:=hv3 0 _ lv rfl rfl;have hge:=f2.eval g;rw[hg]at hge
 obtain⟨lb,hgv,hlb⟩:∃lb:Array Value,a2.eval g = .func (.func gf) #[] lb∧lb = #[.pointer (some ⟨s2.φ L,0,none⟩)]:=by
  generalize a2.eval g=gv at hge
  cases hge with
  | fn _ _ us hl hh =>
   refine⟨us,rfl,?_⟩;obtain⟨l⟩:=us
   match l,hl with
   | [u],_ =>
    have:=hh 0 _ u rfl rfl
    cases this with
    | ptr _ _ cs hk=>rfl
 subst hlb;have hLv:=lvC hkb;have hBs:=g2.lt L hLv;have hcut:s2.H=Hs 0++[.cells [.lst z fl xs]]:=hH2;obtain⟨s3,hs3⟩:∃s3,s3=s2.cut (Hs 0):=⟨_,rfl⟩
 have g3:Good s3:=by rw[hs3];exact dU g2 hcut (hrb 0 (by omega))
 have hw3:s3.w=s2.w:=by rw[hs3];rfl
 have hH3:s3.H=Hs 0:=by rw[hs3];rfl
 have hz3:GOk P s3:=fun gg hgg=>by
  obtain⟨q1,q2⟩:=hz2 gg hgg;rw[hs3];exact⟨bv hcut q1,q2⟩
 have hstep:∀s',Step s3 s'→Step s s':=fun s' h=>by
  rw[hs3]at h;exact cz g2 hcut h s st02 (by rw[hH.1];omega)
 have f3:FRel s3 frM a2.tmps:=by
  refine⟨by rw[hm.len];exact f2.len,fun i v u hv hu=>?_⟩;have hi:=aB hv;have hv':fr1[i]?=some (fr1[i]'(by rw[←hm.len];exact hi)):=kJ _
  rcases hm.at_ i _ _ hv hv' with e | e
  ·rw[e];exact .undef _
  ·have:=f2.rel i _ u hv' hu;rw[←e]at this;rw[hs3];exact dx hcut this (by rw[←hL];exact hrb0 v (kK hv))
 have pBs:s3.Prot (s2.φ L):=by
  rw[hs3];refine⟨hBs.1,hBs.2,fun k hk e=>?_⟩;have hk2:=dI hcut hk;have:=g2.inj k L hk2 hLv e;subst this;have:=hk.1;simp only[St.cut]at this;omega
 obtain⟨b,off,cap,us,hpb,hcase,hcell,hone,hrelE⟩:∃(b off cap:Nat) (us:Nat→Nat→Value),s3.Prot b∧(s3.w.cell? ⟨s2.φ L,0,none⟩=some (.slice (if N=0 then none else some ⟨b,off,none⟩) N cap)∨(N=0∧∃A,s3.w.cell? ⟨s2.φ L,0,none⟩=some (.slice A 0 cap)))∧
   (∀i,i<N→∀j,j<z→s3.w.cell? ⟨b,off+i*z+j,none⟩=some (us i j))∧(∀i,i<N→∀j,j<z→(us i j).oneCell'=true)∧
   ∀i,i<N→∀s',Step s3 s'→Rel s' (xs.getD i .undef) (.agg ((kQ z).map (us i)).toArray):=by
  have hcl:s3.w.cell? ⟨s2.φ L,0,none⟩=some lv:=by
   rw[hw3];simp[World.cell?,hv1]
  cases hrl with
  | lst _ _ _ A cap b off u hcap hfull hA hz hcell hrel =>
   by_cases h0:N=0
   ·refine⟨s2.φ L,0,cap,fun _ _=>.bool true,pBs,.inr ⟨h0,A,?_⟩,fun i hi=>absurd hi (by omega),fun i hi=>absurd hi (by omega),fun i hi=>absurd hi (by omega)⟩;rw[hcl];congr 2;omega
   ·obtain⟨rfl,hP⟩:=hA (by omega)
    have hat:∀i,i<N→∃cs,xs[i]?=some (.agg cs)∧xs.getD i .undef = .agg cs∧cs.length=z∧∀c∈cs,c.one=true∧Pure c:=fun i hi=>by
     have hil:i<xs.length:=by omega
     obtain⟨cs,q1,q2,q3⟩:=hx xs[i] (kN hil);refine⟨cs,by rw[kJ hil,q1],?_,q2,q3⟩;rw[lw,kJ hil,lz,q1]
    have hrc:∀i,i<N→∀j,j<z→∃cs c,xs[i]?=some (.agg cs)∧cs[j]?=some c∧c.one=true∧Pure c∧Rel s2 c (u i j):=fun i hi j hj=>by
     obtain⟨cs,q1,_,q2,q3⟩:=hat i hi
     have hjl:j<cs.length:=by omega
     have hc:cs[j]?=some cs[j]:=kJ hjl;exact⟨cs,cs[j],q1,hc,(q3 _ (kN hjl)).1,(q3 _ (kN hjl)).2,hrel i _ j _ q1 hc⟩
    refine⟨b,off,cap,u,by rw[hs3];exact bv hcut hP,.inl ?_,fun i hi j hj=>?_,fun i hi j hj=>?_,fun i hi s' hst=>?_⟩
    ·rw[hcl,if_neg h0,hN]
    ·obtain⟨cs,c,q1,q2,_⟩:=hrc i hi j hj;rw[hw3];exact hcell i _ j c q1 q2
    ·obtain⟨cs,c,q1,q2,q3,_,q4⟩:=hrc i hi j hj;exact q4.oneCell q3
    ·obtain⟨cs,q1,q2,q3,q4⟩:=hat i hi;rw[q2];refine rel_aggL (by simp[q3]) (fun c hc=>(q4 c hc).1) (fun j c v hc hv=>?_)
     have hj:j<z:=by have:=aB hc;omega
     have hv':u i j=v:=by
      rw[kb,mY hj]at hv;simpa using hv
     subst hv';have hr:=hrel i _ j c q1 hc
     have hr3:Rel s3 c (u i j):=by
      rw[hs3];exact bp hcut hr (pure_rb1 (q4 c (kK hc)).2 (q4 c (kK hc)).1)
     exact hr3.step hst
 have hkp:∀{sa sb:St},Step s3 sa→Step sa sb→KpS (fun x=>x=s2.φ L∨x=b) sa.w sb.w:=fun {sa sb} h1 h2 x hx=>by
  rcases hx with rfl | rfl
  ·exact(h2.prot (h1.prot pBs).1).2
  ·exact(h2.prot (h1.prot hpb).1).2
 refine wpIn_block ?_
 refine fq (F:=Fence.wide) (n:=20) (w0:=s2.w) rfl (by omega) hgv trivial eg (N:=N) (Kp:=KpS fun x=>x=s2.φ L∨x=b) (encs:=fun k=>#[.int .i64 ((N-1-k:Nat):Int),.agg ((kQ z).map (us (N-1-k))).toArray])
  ?_ (fun {A B C} h1 h2 x hx=>(h2 x hx).trans (h1 x hx)) (fun Wd l o o' hl ho _ _ x hx=>?_) (Below.refl _ _) (fun k=>rfl)
  (fun k Wd=>∃s',s'.w=Wd∧Good s'∧Step s3 s'∧s'.H=Hs (min k N)) (fun k A B row hI hgr hr=>?_) ⟨s3,hw3,g3,Step.refl _,by rw[hH3,Nat.zero_min]⟩
  (fun k a Wd=>k<N∧∃s',s'.w=Wd∧Good s'∧Step s3 s'∧s'.H=HB k∧FRel s' (frB k) a.tmps∧a.defers=[]) (fun a k A B row hI hgr hr=>?_) (fun l k Wd hI hk=>?_) (fun l k a Wd hI hk=>?_) (fun D Wd hD hI hdef=>?_)
 ·have h:=hit (s2.φ L) b off cap us s2.w hBs.1 (by rw[←hw3];exact hpb.1) (by rw[←hw3];exact hcase) (fun i hi j hj=>by rw[←hw3];exact hcell i hi j hj) hone;exact h
 ·have hx2:x<s2.w.heap.size:=by
   rcases hx with rfl | rfl
   ·exact hBs.1
   ·rw[←hw3];exact hpb.1
  exact World.putObj_heap_other (by omega)
 ·obtain⟨s',rfl,g',st',hH'⟩:=hI;obtain⟨q1,q2,q3⟩:=gh g3 g' st' (by rw[hH'];exact hnm _ (Nat.min_le_right _ _)) hgr (fun r hr'=>by rw[hw3];exact hr r hr');exact⟨s'.at B,rfl,q1,q2,hH'⟩
 ·obtain⟨hk,s',rfl,g',st',hH',f',d'⟩:=hI;obtain⟨q1,q2,q3⟩:=gh g3 g' st' (by rw[hH'];exact hnB _ hk) hgr (fun r hr'=>by rw[hw3];exact hr r hr');exact⟨hk,s'.at B,rfl,q1,q2,hH',⟨f'.len,fun i v u hv hu=>q3 v u (f'.rel i v u hv hu)⟩,d'⟩
 ·obtain⟨s',rfl,g',st',hH'⟩:=hI;rw[li (by omega)]at hH'
  have hfr2:FRel s' ((frM.set p0 (.int .i64 ((N-1-k:Nat):Int))).set p1 (xs.getD (N-1-k) .undef)) ((a2.tmps.setIfInBounds p0 (.int .i64 ((N-1-k:Nat):Int))).setIfInBounds p1 (.agg ((kQ z).map (us (N-1-k))).toArray)):=
   frel_set (frel_set (f3.step st') (.int _ _)) (hrelE (N-1-k) (by omega) s' st')
  refine wpIn_mono (hasg k hk l _ s' _ ⟨hH',hz3.step st'⟩ g' (by simpa[Array.zip,Array.zipWith,Array.zipWithMAux] using hfr2) rfl) fun e a1 W1 hl=>?_
  obtain⟨fr,s4,rfl,g4,st4,f4,d4,rfl,rfl,hH4⟩:=hl;exact⟨fR g' (by rw[hH'];exact hnm k (by omega)) st4,hkp st' st4,hk,s4,rfl,g4,st'.trans st4,hH4,f4,d4⟩
 ·obtain⟨_,s',rfl,g',st',hH',f',d'⟩:=hI
  refine wpIn_mono (hbody k hk l _ s' a ⟨hH',hz3.step st'⟩ g' f' d') fun e a1 W1 hl=>?_
  obtain⟨fr,s4,rfl,g4,st4,f4,d4,rfl,G,hH4⟩:=hl;refine⟨fR g' (by rw[hH'];exact hnB k hk) st4,hkp st' st4,s4.cut (Hs (k+1)),rfl,dU g4 hH4 (hrb (k+1) (by omega)),cz g4 hH4 (Step.refl _) s3 (st'.trans st4) (by rw[hH3,hlen (k+1) (by omega),←hL];exact kM _),?_⟩;rw[li (by omega)];rfl
 ·obtain⟨s',rfl,g',st',hH'⟩:=hI;rw[Nat.min_self]at hH'
  obtain⟨q1,q2,q3⟩:=gh g3 g' st' (by rw[hH'];exact hnm N (kM _)) (grownBy_putObj' s'.w D (.deferred none)) (fun r hr'=>by
   cases hr'
   exact⟨by rw[hw3];exact hD,_,hdef,rfl⟩)
  show LeavesInM Fence.wide 20 P fn a2.tmps _ ({ target:=.collected D,args:=#[] }::a2.defers) .returning s'.w;rw[d2];refine⟨by simp,.inl ⟨D,_,rfl,run_takeDeferred hdef,?_⟩⟩;refine⟨.tuple #[],by simp[results,hres],.tuple #[],s'.at _,.tup [],rfl,rfl,q1,hstep _ q2,.tup [] #[] rfl (by simp),rfl,hH'⟩
end
end
end
end Go.AM
namespace Go.AM
section
open Go
section
section
variable {P:Program} {T:Ty}
end
end
section
inductive Ren (g:Nat→Nat) (n:Nat):V→V→Prop
 | pure (v:V) (h:Pure v):Ren g n v v
 | ptr (i o:Nat) (h:i<n):Ren g n (.ptr i o) (.ptr (g i) o)
 | buf (i o l t:Nat) (h:i<n):Ren g n (.buf i o l t) (.buf (g i) o l t)
inductive RenB (g:Nat→Nat) (n:Nat):B→B→Prop
 | cells (cs ds:List V) (hl:cs.length=ds.length) (h1:∀c∈ds,c.one=true) (h:∀(i:Nat) c d,cs[i]?=some c→ds[i]?=some d→Ren g n c d):RenB g n (.cells cs) (.cells ds)
 | buf (e z:Nat) (xs:List V) (fz:Bool) (h:∀x∈xs,Pure x):RenB g n (.buf e z xs fz) (.buf e z xs fz)
theorem Ren.one{g:Nat→Nat}{n:Nat}{v w:V}(h:Ren g n v w)(h1:w.one=true):v.one=true:=by
 cases h with
 | pure=>exact h1
 | ptr=>rfl
 | buf=>rfl
section
variable {P:Program} {g:Nat→Nat} {n:Nat}
structure Emb (g:Nat→Nat) (n:Nat) (s0 s:St):Prop where
 blk:∀i b,i<n→s0.H[i]?=some b→∃b',s.H[g i]?=some b'∧RenB g n b b'
 len:s0.H.length=n
 φ:∀i,i<n→s.φ (g i)=s0.φ i
 κ:∀i,i<n→s.κ (g i)=s0.κ i
 w:s.w=s0.w
theorem Emb.at_{s0 s:St}(h:Emb g n s0 s){i:Nat}(hi:i<n):∃b b',s0.H[i]?=some b∧s.H[g i]?=some b'∧RenB g n b b':=by
 have hb:s0.H[i]?=some (s0.H[i]'(by rw[h.len];exact hi)):=kJ _;obtain⟨b',h1,h2⟩:=h.blk i _ hi hb;exact⟨_,b',hb,h1,h2⟩
theorem Emb.buf0{s0 s:St}(h:Emb g n s0 s){i e z:Nat}{xs:List V}{fz:Bool}(hi:i<n)(hk:s0.H[i]?=some (.buf e z xs fz)):s.H[g i]?=some (.buf e z xs fz):=by
 obtain⟨b',h1,h2⟩:=h.blk i _ hi hk;cases h2;exact h1
theorem Emb.buf1{s0 s:St}(h:Emb g n s0 s){i e z:Nat}{xs:List V}{fz:Bool}(hi:i<n)(hk:s.H[g i]?=some (.buf e z xs fz)):s0.H[i]?=some (.buf e z xs fz):=by
 obtain⟨b,b',h1,h2,h3⟩:=h.at_ hi;rw[hk]at h2;cases h2;cases h3;exact h1
theorem Emb.lv0{s0 s:St}(h:Emb g n s0 s){i:Nat}(hl:Lv s0 i):i<n∧Lv s (g i):=by
 have hi:i<n:=by have:=hl.1;rw[h.len]at this;exact this
 obtain⟨b,b',h1,h2,h3⟩:=h.at_ hi;exact⟨hi,aB h2,fun e z xs fz hb=>by rw[h.κ i hi];exact hl.2 e z xs fz (h.buf1 hi hb)⟩
theorem Emb.lv1{s0 s:St}(h:Emb g n s0 s){i:Nat}(hi:i<n)(hl:Lv s (g i)):Lv s0 i :=
 ⟨by rw[h.len];exact hi,fun e z xs fz hb=>by rw[←h.κ i hi];exact hl.2 e z xs fz (h.buf0 hi hb)⟩
theorem Emb.down{s0 s:St}(h:Emb g n s0 s)(hw:∀b,s.Prot b→s0.Prot b∧s0.w.heap[b]?=s.w.heap[b]?){v v':V}{u:Value}(hr:Ren g n v v')(hu:Rel s v' u):Rel s0 v u:=by
 cases hr with
 | pure _ hp=>exact hu.pure_ hp hw
 | ptr i o hi =>
  cases hu with
  | ptr _ _ cs hk =>
   obtain⟨b,b',h1,h2,h3⟩:=h.at_ hi;rw[hk]at h2;cases h2
   cases h3 with
   | cells cs0 _ _ _ _ =>
    rw[h.φ i hi];exact .ptr i o cs0 h1
 | buf i o l t hi =>
  cases hu with
  | buf _ _ _ _ e z xs fz A l' c hk ht hh =>
   rw[h.φ i hi,h.κ i hi]at hh;exact .buf i o l t e z xs fz A l' c (h.buf1 hi hk) ht hh
theorem Emb.up{s0 s:St}(h:Emb g n s0 s)(hw:∀b,s0.Prot b→s.Prot b∧s.w.heap[b]?=s0.w.heap[b]?){v v':V}{u:Value}(hr:Ren g n v v')(hu:Rel s0 v u):Rel s v' u:=by
 cases hr with
 | pure _ hp=>exact hu.pure_ hp hw
 | ptr i o hi =>
  cases hu with
  | ptr _ _ cs hk =>
   obtain⟨b,b',h1,h2,h3⟩:=h.at_ hi;rw[hk]at h1;cases h1
   cases h3 with
   | cells _ ds _ _ _ =>
    rw[←h.φ i hi];exact .ptr (g i) o ds h2
 | buf i o l t hi =>
  cases hu with
  | buf _ _ _ _ e z xs fz A l' c hk ht hh =>
   rw[←h.φ i hi,←h.κ i hi]at hh;exact .buf (g i) o l t e z xs fz A l' c (h.buf0 hi hk) ht hh
open Classical in
theorem fN{f:FuncId}{args0 args:List V}{H0 H H1 H2:List B}{r0:V}(n m:Nat)(g:Nat→Nat)(h:aT P f args0 H0 fun r H'=>r=r0∧H'=H1)(hn:H0.length=n)(hm:H1.length=m)(hnm:n≤m)
  (hinj:∀i j,i<m→j<m→g i=g j→i=j) (hgo:∀i,i<n→g i<H.length) (hgn:∀i,n≤i→i<m→g i=H.length+(i-n))
  (hB:∀i b,H0[i]?=some b→∃b',H[g i]?=some b'∧RenB g n b b') (hB1:∀i b,H1[i]?=some b→∃b',H2[g i]?=some b'∧RenB g m b b')
  (h2l:H2.length=H.length+(m-n)) (h2o:∀j,j<H.length→(∀i,i<n→g i≠j)→H2[j]?=H[j]?)
  (hal:args0.length=args.length) (ha:∀(i:Nat) a b,args0[i]?=some a→args[i]?=some b→Ren g n a b) (hr:Pure r0):aT P f args H fun r H'=>r=r0∧H'=H2:=by
 refine⟨h.1,fun s vals hH hg hsz hrel=>?_⟩;obtain⟨rfl,hz⟩:=hH
 let op:Nat→Prop:=fun j=>∃i,i<n∧g i=j
 obtain⟨s0,hs0⟩:∃s0:St,s0=⟨hold s op,s.w,fun i=>s.φ (g i),fun i=>s.κ (g i),H0⟩:=⟨_,rfl⟩
 have hw0:s0.w=s.w:=by rw[hs0]
 have hF0:s0.F=hold s op:=by rw[hs0]
 have hHH0:s0.H=H0:=by rw[hs0]
 have e0:Emb g n s0 s:=⟨fun i b hi hb=>hB i b (by rw[←hHH0];exact hb),by rw[hHH0];exact hn,fun i _=>by rw[hs0],fun i _=>by rw[hs0],hw0.symm⟩
 have hold_no:∀b,s.Prot b→¬hold s op b:=fun b hb=>by
  rintro(hf | ⟨k,hk,e,_,hno⟩)
  ·exact hb.2.1 hf
  ·obtain⟨e',z',xs',he'⟩:=hb.2.2 k hk e;exact hno e' z' xs' he'
 have hwd:∀b,s.Prot b→s0.Prot b∧s0.w.heap[b]?=s.w.heap[b]?:=fun b hb=>by
  refine⟨⟨by rw[hw0];exact hb.1,by rw[hF0];exact hold_no b hb,fun i hi e=>?_⟩,by rw[hw0]⟩;obtain⟨hin,hl⟩:=e0.lv0 hi;obtain⟨e',z',xs',he'⟩:=hb.2.2 (g i) hl ((e0.φ i hin).trans e);exact⟨e',z',xs',e0.buf1 hin he'⟩
 have g0:Good s0:=by
  refine⟨fun b hb=>?_,fun i hi=>?_,fun i j hi hj e=>?_,fun i b hb=>?_⟩
  ·rw[hF0]at hb;rw[hw0]
   rcases hb with hb | ⟨k,hk,e,_⟩
   ·exact hg.fl b hb
   ·rw[←e];exact(hg.lt k hk).1
  ·obtain⟨hin,hl⟩:=e0.lv0 hi;rw[←e0.φ i hin,hw0,hF0];refine⟨(hg.lt _ hl).1,?_⟩;rintro(hf | ⟨k,hk,e,hno,_⟩)
   ·exact(hg.lt _ hl).2 hf
   ·have:=hg.inj k (g i) hk hl e;exact hno ⟨i,hin,this.symm⟩
  ·obtain⟨hin,hl⟩:=e0.lv0 hi;obtain⟨hjn,hl'⟩:=e0.lv0 hj;rw[←e0.φ i hin,←e0.φ j hjn]at e;exact hinj i j (by omega) (by omega) (hg.inj _ _ hl hl' e)
  ·have hin:i<n:=by have:=aB hb;rw[hHH0,hn]at this;exact this
   obtain⟨b',h1,h2⟩:=e0.blk i b hin hb;have hbr:=hg.blk _ _ h1
   cases h2 with
   | cells cs ds hl h1' hh =>
    obtain⟨q1,vs,t,q2,q3,q4⟩:=hbr;refine⟨fun c hc=>?_,vs,t,by rw[hw0,←e0.φ i hin];exact q2,by omega,fun j c u hc hu=>?_⟩
    ·obtain⟨j,hj⟩:=List.mem_iff_getElem?.1 hc;have hjl:=aB hj;have hd:ds[j]?=some (ds[j]'(by omega)):=kJ _;exact(hh j c _ hj hd).one (h1' _ (kK hd))
    ·have hjl:=aB hc;have hd:ds[j]?=some (ds[j]'(by omega)):=kJ _;exact e0.down hwd (hh j c _ hc hd) (q4 j _ u hd hu)
   | buf e z xs fz hp =>
    obtain⟨vs,q2,q3,q4,q5,q6,q7⟩:=hbr;rw[e0.κ i hin,e0.φ i hin]at *;refine⟨vs,fun hz=>by rw[hw0];exact q2 hz,q3,q4,q5,q6,fun j x t c u hx hc hu=>?_⟩;exact e0.down hwd (.pure c ((hp x (kK hx)).cells c (kK hc))) (q7 j x t c u hx hc hu)
 have hz0:GOk P s0:=fun gl hgl=>by
  obtain⟨q1,q2⟩:=hz gl hgl;exact⟨(hwd gl q1).1,by rw[hw0];exact q2⟩
 have hrel0:∀(i:Nat) a u,args0[i]?=some a→vals[i]?=some u→Rel s0 a u:=fun i a u hai hu=>by
  have hi:=aB hai;have hb:args[i]?=some (args[i]'(by omega)):=kJ _;exact e0.down hwd (ha i a _ hai hb) (hrel i _ u hb hu)
 rw[←hw0]
 refine(h.2 s0 vals ⟨hHH0,hz0⟩ g0 (by omega) hrel0).mono fun e w' ⟨u,s1,r,a1,a2,g1,st,ru,hrr,hH1⟩=>?_
 subst a2;subst hrr
 have hch:∀i,i<m→∀hx:∃q,q<m∧g q=g i,hx.choose=i:=fun i hi hx=>hinj _ _ hx.choose_spec.1 hi hx.choose_spec.2
 obtain⟨s2,hs2⟩:∃s2:St,s2=⟨s.F,s1.w,fun j=>if hx:∃i,i<m∧g i=j then s1.φ hx.choose else s.φ j,fun j=>if hx:∃i,i<m∧g i=j then s1.κ hx.choose else s.κ j,H2⟩:=⟨_,rfl⟩
 have hw2:s2.w=s1.w:=by rw[hs2]
 have hHH2:s2.H=H2:=by rw[hs2]
 have hφi:∀i,i<m→s2.φ (g i)=s1.φ i:=fun i hi=>by
  rw[hs2];show(if hx:∃q,q<m∧g q=g i then s1.φ hx.choose else s.φ (g i))=_;rw[dif_pos ⟨i,hi,rfl⟩,hch i hi]
 have hκi:∀i,i<m→s2.κ (g i)=s1.κ i:=fun i hi=>by
  rw[hs2];show(if hx:∃q,q<m∧g q=g i then s1.κ hx.choose else s.κ (g i))=_;rw[dif_pos ⟨i,hi,rfl⟩,hch i hi]
 have hφo:∀j,(¬∃i,i<m∧g i=j)→s2.φ j=s.φ j:=fun j hj=>by
  rw[hs2];show(if hx:∃q,q<m∧g q=j then s1.φ hx.choose else s.φ j)=_;rw[dif_neg hj]
 have hκo:∀j,(¬∃i,i<m∧g i=j)→s2.κ j=s.κ j:=fun j hj=>by
  rw[hs2];show(if hx:∃q,q<m∧g q=j then s1.κ hx.choose else s.κ j)=_;rw[dif_neg hj]
 have e1:Emb g m s1 s2:=⟨fun i b hi hb=>by rw[hHH2];exact hB1 i b (by rw[←hH1];exact hb),by rw[hH1];exact hm,hφi,hκi,hw2⟩
 have hout:∀j,j<H2.length→(¬∃i,i<m∧g i=j)→j<s.H.length∧H2[j]?=s.H[j]?:=fun j hj hno=>by
  have hjl:j<s.H.length:=by
   by_cases hjl:j<s.H.length
   ·exact hjl
   ·exact absurd ⟨n+(j-s.H.length),by omega,by rw[hgn _ (by omega) (by omega)];omega⟩ hno
  exact⟨hjl,h2o j hjl (fun i hi e=>hno ⟨i,by omega,e⟩)⟩
 have hlvo:∀j,(¬∃i,i<m∧g i=j)→Lv s2 j→Lv s j:=fun j hno hl=>by
  have hj:j<H2.length:=by have:=hl.1;rw[hHH2]at this;exact this
  obtain⟨h1,h2⟩:=hout j hj hno;exact⟨h1,fun e z xs fz hb=>by rw[←hκo j hno];exact hl.2 e z xs fz (by rw[hHH2,h2];exact hb)⟩
 have hsame:∀j,Lv s j→(¬∃i,i<n∧g i=j)→s1.w.heap[s.φ j]?=s.w.heap[s.φ j]?:=fun j hl hno=>by
  have:=st.out (s.φ j) (by rw[hw0];exact(hg.lt j hl).1) (fun i hi e=>by
   obtain⟨hin,hl'⟩:=e0.lv0 hi;rw[←e0.φ i hin]at e
   exact hno ⟨i,hin,hg.inj _ _ hl' hl e⟩)
  rw[hw0]at this;exact this
 have hnm':∀j,(¬∃i,i<m∧g i=j)→¬∃i,i<n∧g i=j:=fun j hno ⟨i,hi,e⟩=>hno ⟨i,by omega,e⟩
 have hwu:∀b,s1.Prot b→s2.Prot b∧s2.w.heap[b]?=s1.w.heap[b]?:=fun b hb=>by
  have hFb:¬hold s op b:=by rw[←hF0,←st.F];exact hb.2.1
  refine⟨⟨by rw[hw2];exact hb.1,by rw[hs2];exact fun hf=>hFb (Or.inl hf),fun j hj e=>?_⟩,by rw[hw2]⟩;by_cases hno:∃i,i<m∧g i=j
  ·obtain⟨i,hi,rfl⟩:=hno;obtain⟨e',z',xs',he'⟩:=hb.2.2 i (e1.lv1 hi hj) ((hφi i hi).symm.trans e);exact⟨e',z',xs',e1.buf0 hi he'⟩
  ·have hl:=hlvo j hno hj;rw[hφo j hno]at e;by_cases hfz:∃e z xs,s.H[j]?=some (.buf e z xs true)
   ·obtain⟨e',z',xs',he'⟩:=hfz
    have hj2:j<H2.length:=by have:=hj.1;rw[hHH2]at this;exact this
    exact⟨e',z',xs',by rw[hHH2,(hout j hj2 hno).2];exact he'⟩
   ·exact absurd (Or.inr ⟨j,hl,e,hnm' j hno,fun e z xs hh=>hfz ⟨e,z,xs,hh⟩⟩) hFb
 have hst:Step s s2:=by
  refine⟨by rw[hs2],by rw[hw2,st.os,hw0],by rw[hw2,st.tape,hw0],by rw[hw2,st.output,hw0],by rw[hw2,←hw0];exact st.size,fun b hb hno=>?_,by rw[hHH2,h2l];omega,fun j hj hl=>?_,fun j bl hj=>?_⟩
  ·have:=st.out b (by rw[hw0];exact hb) (fun i hi e=>by
    obtain⟨hin,hl'⟩:=e0.lv0 hi;rw[←e0.φ i hin]at e
    exact hno _ hl' e)
   rw[hw0]at this;rw[hw2];exact this
  ·have hj2:j<H2.length:=by have:=hl.1;rw[hHH2]at this;exact this
   by_cases hno:∃i,i<m∧g i=j
   ·obtain⟨i,hi,rfl⟩:=hno
    have hni:n≤i:=by
     rcases lJ i n with q | q
     ·have:=hgo i q;omega
     ·exact q
    rw[hφi i hi,←hw0];exact st.new i (by rw[hHH0,hn];exact hni) (e1.lv1 hi hl)
   ·have:=(hout j hj2 hno).1;omega
  ·have hjl:=aB hj;by_cases hno:∃i,i<m∧g i=j
   ·obtain⟨i,hi,rfl⟩:=hno
    have hin:i<n:=by
     rcases lJ i n with q | q
     ·exact q
     ·have:=hgn i q hi;omega
    obtain⟨b,b',q1,q2,q3⟩:=e0.at_ hin;rw[hj]at q2;cases q2;have hk:=st.keep i b q1
    cases q3 with
    | cells cs ds _ _ _ =>
     obtain⟨p1,cs',p2⟩:=hk;obtain⟨b2,p3,p4⟩:=e1.blk i _ hi p2
     cases p4 with
     | cells _ ds' _ _ _=>exact⟨by rw[hφi i hi,p1,e0.φ i hin],ds',p3⟩
    | buf e z xs fz hp =>
     obtain⟨xs',fz',p1,p2,p3,p4,p5,p6⟩:=hk;rw[←e0.φ i hin,←e0.κ i hin,←hφi i hi,←hκi i hi]at *;refine⟨xs',fz',e1.buf0 hi p1,p2,p3,fun hf=>?_,?_,?_⟩
     ·obtain⟨k1,k2,k3⟩:=p4 hf;exact⟨k1,k2,fun hz=>by have:=k3 hz;rw[hw0]at this;rw[hw2];exact this⟩
     ·rw[hw0]at p5;exact p5
     ·rw[hw0]at p6;exact p6
   ·have h2:=h2o j hjl (fun i hi e=>hno ⟨i,by omega,e⟩)
    have hj':s2.H[j]?=some bl:=by rw[hHH2,h2];exact hj
    cases bl with
    | cells cs=>exact⟨hφo j hno,cs,hj'⟩
    | map kk es=>exact⟨hφo j hno,es,hj'⟩
    | buf e z xs fz =>
     refine⟨xs,fz,hj',kM _,fun _=>⟨hφo j hno,hκo j hno⟩,fun hf=>⟨hf,rfl,fun hz=>?_⟩,.inl (hφo j hno),fun hz=>.inl (by rw[hκo j hno];exact hz)⟩;rw[hw2];exact hsame j (lvB hj hz) (hnm' j hno)
 have hg2:Good s2:=by
  have hold1:∀i,i<m→Lv s1 i→s1.φ i<s.w.heap.size→i<n∧Lv s (g i)∧s1.φ i=s.φ (g i):=fun i hi hl hlt=>by
   have hin:i<n:=by
    rcases lJ i n with q | q
    ·exact q
    ·have:=st.new i (by rw[hHH0,hn];exact q) hl;rw[hw0]at this;omega
   obtain⟨b,b',q1,q2,q3⟩:=e0.at_ hin;have hk:=st.keep i b q1
   cases q3 with
   | cells cs ds _ _ _=>exact⟨hin,lvC q2,by rw[hk.1,e0.φ i hin]⟩
   | buf e z xs fz hp =>
    obtain⟨xs',fz',p1,p2,p3,p4,p5,p6⟩:=hk;rw[hw0]at p5 p6
    have hne:s0.κ i≠0:=fun hz=>by
     rcases p6 hz with q | q
     ·exact hl.2 _ _ _ _ p1 q
     ·omega
    rcases p5 with q | q
    ·exact⟨hin,lvB q2 (by rw[e0.κ i hin];exact hne),by rw[q,e0.φ i hin]⟩
    ·omega
  refine⟨fun b hb=>?_,fun j hj=>?_,fun j k hj hk e=>?_,fun j bl hj=>?_⟩
  ·rw[hw2]
   have:s.F b:=by rw[hs2]at hb;exact hb
   exact ka (hg.fl b this) (by rw[←hw0];exact st.size)
  ·rw[hw2];by_cases hno:∃i,i<m∧g i=j
   ·obtain⟨i,hi,rfl⟩:=hno;rw[hφi i hi];have:=g1.lt i (e1.lv1 hi hj);refine⟨this.1,fun hf=>this.2 ?_⟩;rw[st.F,hF0]
    have:s.F (s1.φ i):=by rw[hs2]at hf;exact hf
    exact Or.inl this
   ·rw[hφo j hno];have:=hg.lt j (hlvo j hno hj);exact⟨ka this.1 (by rw[←hw0];exact st.size),by rw[hs2];exact this.2⟩
  ·have mix:∀i j,i<m→Lv s1 i→(¬∃q,q<m∧g q=j)→Lv s j→s1.φ i≠s.φ j:=fun i j hi hl hno hlj e=>by
    obtain⟨q1,q2,q3⟩:=hold1 i hi hl (by rw[e];exact(hg.lt j hlj).1);rw[q3]at e;exact hno ⟨i,hi,hg.inj _ _ q2 hlj e⟩
   by_cases hnj:∃i,i<m∧g i=j<;>by_cases hnk:∃i,i<m∧g i=k
   ·obtain⟨i,hi,rfl⟩:=hnj;obtain⟨i',hi',rfl⟩:=hnk;rw[hφi i hi,hφi i' hi']at e;rw[g1.inj i i' (e1.lv1 hi hj) (e1.lv1 hi' hk) e]
   ·obtain⟨i,hi,rfl⟩:=hnj;rw[hφi i hi,hφo k hnk]at e;exact absurd e (mix i k hi (e1.lv1 hi hj) hnk (hlvo k hnk hk))
   ·obtain⟨i,hi,rfl⟩:=hnk;rw[hφi i hi,hφo j hnj]at e;exact absurd e.symm (mix i j hi (e1.lv1 hi hk) hnj (hlvo j hnj hj))
   ·rw[hφo j hnj,hφo k hnk]at e;exact hg.inj j k (hlvo j hnj hj) (hlvo k hnk hk) e
  ·have hj2:j<H2.length:=by have:=aB hj;rw[hHH2]at this;exact this
   by_cases hno:∃i,i<m∧g i=j
   ·obtain⟨i,hi,rfl⟩:=hno;obtain⟨b,b',q1,q2,q3⟩:=e1.at_ hi;rw[hj]at q2;cases q2;have hbr:=g1.blk i b q1
    cases q3 with
    | cells cs ds hl h1' hh =>
     obtain⟨p1,vs,t,p2,p3,p4⟩:=hbr;refine⟨h1',vs,t,by rw[hw2,hφi i hi];exact p2,by omega,fun q d u hd hu=>?_⟩;have hql:=aB hd;have hc:cs[q]?=some (cs[q]'(by omega)):=kJ _;exact e1.up hwu (hh q _ d hc hd) (p4 q _ u hc hu)
    | buf e z xs fz hp =>
     obtain⟨vs,p2,p3,p4,p5,p6,p7⟩:=hbr;rw[←hκi i hi]at p2 p3 p4 p5;rw[←hφi i hi]at p2;refine⟨vs,fun hz=>by rw[hw2];exact p2 hz,p3,p4,p5,p6,fun q x t c u hx hc hu=>?_⟩;exact e1.up hwu (.pure c ((hp x (kK hx)).cells c (kK hc))) (p7 q x t c u hx hc hu)
   ·have hj':s.H[j]?=some bl:=by rw[←(hout j hj2 hno).2,←hHH2];exact hj
    exact(hg.blk j bl hj').step hst hj' (hφo j hno) (hκo j hno) (fun hl=>by rw[hw2];exact hsame j hl (hnm' j hno))
 exact⟨u,s2,r,a1,hw2,hg2,hst,e1.up hwu (.pure r hr) ru,rfl,hHH2⟩
end
end
end
end Go.AM
namespace Go.Proofs.YtpedcgdgjoblkaaGreatDoor
section
open Go Go.AM
theorem conH_cutE{P:Program}{f:FuncId}{args:List V}{H:List B}{σ:Type}{ok:σ→Prop}{rf:σ→V}{Hf:σ→List B}(h:aT P f args H fun r H'=>∃x,ok x∧r=rf x∧∃G,H'=Hf x++G)(hl:∀x,ok x→H.length≤(Hf x).length)(hr:∀x,ok x→rb (Hf x).length (rf x))(hb:∀x,ok x→∀bl∈Hf x,rbB (Hf x).length bl):aT P f args H fun r H'=>∃x,ok x∧r=rf x∧H'=Hf x:=by
 refine⟨h.1,fun s vals h1 h2 h3 h4=>(h.2 s vals h1 h2 h3 h4).mono fun e w' ⟨u,s',r,a,b,c,d,e1,x,k1,k2,G,k3⟩=>?_⟩;subst k2;exact⟨u,s'.cut (Hf x),rf x,a,b,dU c k3 (hb x k1),cz c k3 (Step.refl _) s d (by rw[h1.1];exact hl x k1),dx k3 e1 (hr x k1),x,k1,rfl,rfl⟩
end
end Go.Proofs.YtpedcgdgjoblkaaGreatDoor
namespace Go.AM
section
open Go
section
section
variable {P:Program} {T:Ty}
theorem frz_okp{s:St}(hg:Good s){k e z m:Nat}{xs:List V}{fz:Bool}(hk:s.H[k]?=some (.buf e z xs fz)){u:Value}(h:Rel s (.buf k 0 m xs.length) u):Rel (s.frz k (.buf e z xs true)) (.lst z false (xs.take m)) u:=by
 have hkl:=aB hk;obtain⟨_,hst,_⟩:=ej hg hk
 cases h with
 | buf _ _ _ _ e2 z2 xs2 fz2 A l c hk2 ht hh =>
  rw[hk]at hk2;cases hk2;obtain⟨hA,rfl,hcap,hm⟩:=hh rfl;obtain⟨vs,g2,g3,g4,g5,g6,g7⟩:=hg.blk k _ hk
  have hlen:(xs.take l).length=l:=by rw[lC];omega
  by_cases hl0:l=0
  ·subst hl0;exact bf z false A c (fun h=>by cases h)
  have hκ:s.κ k≠0:=by omega
  have hA:=hA hκ;subst hA;have hlk:=lvB hk hκ
  have hP:(s.frz k (.buf e z xs true)).Prot (s.φ k):=by
   refine⟨(hg.lt k hlk).1,(hg.lt k hlk).2,fun j hj e'=>?_⟩;have:=hg.inj j k (jg hk hj) hlk e';subst this;exact⟨e,z,xs,by simp only[St.frz];rw[kW hkl]⟩
  have hat:∀i x,(xs.take l)[i]?=some x→xs[i]?=some x:=fun i x hx=>by
   rw[kg]at hx;split at hx
   ·exact hx
   ·cases hx
  have r:Rel (s.frz k (.buf e z xs true)) (.lst z false (xs.take l)) (.slice (some ⟨s.φ k,0*z,none⟩) (xs.take l).length c):=by
   refine .lst z false (xs.take l) _ c (s.φ k) (0*z) (fun i j=>(s.w.cell? ⟨s.φ k,0*z+i*z+j,none⟩).getD Go.undef) (by omega) (by simp) (fun _=>⟨rfl,hP⟩) (fun x hx=>g6 x (lF hx)) (fun i x j d hx hd=>?_) (fun i x j d hx hd=>?_)
   ·obtain⟨_,_,h3⟩:=ce hg hk (hat i x hx);obtain⟨u,hu,_⟩:=h3 j d hd;show s.w.cell? _=_;rw[lq,ky,hu];rfl
   ·obtain⟨_,_,h3⟩:=ce hg hk (hat i x hx);obtain⟨u,hu,hr⟩:=h3 j d hd;rw[lq,ky,hu];exact hr.step hst
  rw[hlen]at r;exact r
theorem wcall_frz{f:FuncId}{args:List V}{H G:List B}{k e z m n:Nat}{xs:List V}{fz:Bool}(h:aT P f args H fun r H'=>r = .buf k 0 m n∧H'=G)(hk:G[k]?=some (.buf e z xs fz))(hn:xs.length=n):
  aM P (.fn f []) args H fun r H'=>r = .lst z false (xs.take m)∧H'=G.set k (.buf e z xs true):=by
 simp only[aM,kX];refine⟨h.1,fun s vals hA hg hsz hrel=>(h.2 s vals hA hg hsz hrel).mono fun e' w' ⟨u,s',r,a1,a2,a3,a4,a5,a6,a7⟩=>?_⟩;subst a6;subst hn;rw[←a7]at hk;obtain⟨p1,p2,_⟩:=ej a3 hk;exact⟨u,s'.frz k (.buf e z xs true),_,a1,a2,p1,a4.trans p2,frz_okp a3 hk a5,rfl,by rw[←a7];rfl⟩
end
end
section
section
variable {P:Program} {T:Ty}
theorem frzC_ok{s:St}(hg:Good s)(k k0:Nat){sc:List Nat}{e z:Nat}{xs cs:List V}{fz:Bool}(hk:s.H[k]?=some (.buf e z xs fz))(hk0:s.H[k0]?=some (.cells cs))(hc:eD (.buf k 0 xs.length xs.length) (.lst z false xs) cs (bi (.lst z false xs) sc 0 cs)):
  ∃s',s'.w=s.w∧Good s'∧Step s s'∧s'.H=(s.H.set k (.buf e z xs true)).set k0 (.cells (bi (.lst z false xs) sc 0 cs)):=by
 obtain⟨p1,p2,_⟩:=ej hg hk;have hlc:=hc.len
 have hne:k0≠k:=fun h=>by subst h;rw[hk]at hk0;cases hk0
 generalize hs1:s.frz k (.buf e z xs true)=s1 at p1 p2
 have hk1:s1.H[k0]?=some (.cells cs):=by rw[←hs1];simp only[St.frz];rw[kP (Ne.symm hne)];exact hk0
 have hr1:∀x y u,Rel s x u→(y=x∨(x = .buf k 0 xs.length xs.length∧y = .lst z false xs))→Rel s1 y u:=fun x y u h1 h2=>by subst hs1;exact gJ hg hk h1 h2
 have hw1:s1.w=s.w:=by rw[←hs1];rfl
 have hst:=bN (w:=s1.w) (bl':=.cells (bi (.lst z false xs) sc 0 cs)) p1 hk1 (lvC hk1) trivial rfl rfl rfl (kM _) (fun _ _ _=>rfl)
 have hgd:Good (s1.setB s1.w k0 (.cells (bi (.lst z false xs) sc 0 cs))):=by
  refine bd p1 hk1 (lvC hk1) trivial rfl rfl rfl (kM _) (fun _ _ _=>rfl) (fun hst=>?_);obtain⟨h1,vs,t,h2,h3,h4⟩:=hg.blk k0 _ hk0
  have hφ:s1.φ k0=s.φ k0:=by rw[←hs1];rfl
  refine⟨fun d hd=>?_,vs,t,by show s1.w.heap[s1.φ k0]?=_;rw[hw1,hφ];exact h2,by omega,fun i d u hd hu=>?_⟩
  ·obtain⟨i,hi⟩:=List.mem_iff_getElem?.1 hd;have hx:cs[i]?=some (cs[i]'(by have:=aB hi;omega)):=kJ _
   rcases hc.at_ i _ d hx hi with h9 | ⟨_,h9⟩
   ·rw[h9];exact h1 _ (kN _)
   ·rw[h9];rfl
  ·have hx:cs[i]?=some (cs[i]'(by have:=aB hd;omega)):=kJ _;exact(hr1 _ d u (h4 i _ u hx hu) (hc.at_ i _ d hx hd)).step hst
 have hH:(s1.setB s1.w k0 (.cells (bi (.lst z false xs) sc 0 cs))).H=(s.H.set k (.buf e z xs true)).set k0 (.cells (bi (.lst z false xs) sc 0 cs)):=by
  rw[←hs1];rfl
 exact⟨s1.setB s1.w k0 (.cells (bi (.lst z false xs) sc 0 cs)),hw1,hgd,p2.trans hst,hH⟩
theorem conH_frzC{f:FuncId}{args:List V}{H G:List B}{r0:V}(k k0:Nat)(sc:List Nat){e z:Nat}{xs cs:List V}{fz:Bool}(h:aT P f args H fun r H'=>r=r0∧H'=G)(hk:G[k]?=some (.buf e z xs fz))(hk0:G[k0]?=some (.cells cs))(hc:eD (.buf k 0 xs.length xs.length) (.lst z false xs) cs (bi (.lst z false xs) sc 0 cs)):
  aT P f args H fun r H'=>r=r0∧H'=(G.set k (.buf e z xs true)).set k0 (.cells (bi (.lst z false xs) sc 0 cs)):=by
 refine⟨h.1,fun s vals hA hg hsz hrel=>(h.2 s vals hA hg hsz hrel).mono fun e' w' ⟨u,s',r,a1,a2,a3,a4,a5,a6,a7⟩=>?_⟩;rw[←a7]at hk hk0;obtain⟨s2,q1,q2,q3,q4⟩:=frzC_ok a3 k k0 hk hk0 hc;exact⟨u,s2,r,a1,q1.trans a2,q2,a4.trans q3,a5.step q3,a6,by rw[q4,a7]⟩
end
end
end
end Go.AM
