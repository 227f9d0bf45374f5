/- JM11: own texts of this seat, joined and shortened by pack4.py: Opb, Bulk, DrK, XF, FrB, XO, FzC, Lft, Cut, Rnd. -/
import Derived.Test.YtdnhplencamncaaGreatDoorJM6
import Derived.Test.YtdnhplencamncaaGreatDoorRows
import Derived.RangeFuncFrom
import Derived.RangeFuncLeaves
import Derived.RangeFuncCalls
import Derived.OrdersIn
set_option linter.unusedVariables false
set_option linter.unusedSimpArgs false
set_option maxRecDepth 100000
set_option maxHeartbeats 64000000
open Array renaming getD_eq_getD_getElem?→qA,getElem?_setIfInBounds_ne→qJ,getElem?_eq_none→qX,replicate→qq,getElem?_replicate→qx,getD→rA,all_eq_true'→rL
open Bool renaming and_eq_true→oP,false_eq_true→oZ,or_eq_true→pW,not_eq_true'→pZ,eq_iff_iff→qS,eq_false_iff→rS
open List renaming getElem?_eq_getElem→oG,mem_of_getElem?→oH,getElem_mem→oI,range→oM,getElem?_set_ne→oQ,append_nil→oU,drop_of_length_le→oV,length_map→oW,getElem?_set_self→oX,getElem?_map→oc,length_cons→og,map_congr_left→oo,length_take→ot,take_of_length_le→pA,drop_zero→pC,getElem?_take→pD,nil_append→pH,getElem?_eq_none→pK,getElem?_cons_succ→pL,length_set→pN,getElem?_drop→pP,mem_of_mem_take→pQ,all_eq_true→pR,ext_getElem?→pT,eq_nil_of_length_eq_zero→pX,take_append_drop→pc,length_filter_le→pf,length_drop→pk,mem_append→qB,mem_filter→qF,mem_range→qK,getElem?_of_mem→qU,getElem?_set→qY,getElem?_range→qZ,contains_iff_mem→qc,take_append_of_le_length→qg,length_range→rC,tail→rx
open Nat renaming le_refl→oJ,lt_of_lt_of_le→om,zero_add→pI,lt_or_ge→pS,le_trans→pY,add_assoc→pm,sub_self→px,zero_mul→pz,add_zero→qH,zero_le→qV,add_sub_cancel'→qb,strongRecOn→rK
open Option renaming map_some→pB,getD_some→qG
namespace Go.AM
section
open Go Go.Deep
section
structure BulkOk {H:Type} (bk:DataW H→Nat):Prop where
 len:∀es sp,es.length≤bk (.slice es sp)
 elem:∀es sp d,d∈es→bk d≤bk (.slice es sp)
 part:∀ps d,d∈ps→bk d≤bk (.agg ps)
def ShB(T:Ty)(Bd:Nat):Nat→TypeId→List V→Prop
 | 0,_,_=>False
 | n+1,t,vs=>match T t with
  | none=>False
  | some i=>match i.desc with
   | .bool=>∃b,vs=[.bool b]
   | .int k=>∃m,vs=[.int k m]∧(Lit.int k m).wf=true
   | .string=>∃s,vs=[.str s]∧s.size≤maxLen
   | .slice e=>match T e with
    | some j=>∃xs,vs=[.lst j.size false xs]∧xs.length≤maxLen∧xs.length≤Bd∧∀x∈xs,∃ws,ShB T Bd n e ws∧ws.length=j.size∧x=(if bY j.desc then .agg ws else ws.headD .undef)
    | none=>False
   | .struct fs=>vs.length=i.size∧∀f∈fs.toList,∃j,T f.type=some j∧ShB T Bd n f.type ((vs.drop f.offset).take j.size)
   | _=>False
section
variable {P:Program} {T:Ty} {Bd:Nat} {Hd:Type} {enc:TypeId×Value→Hd} {w:World} {held:Bool}
theorem lG{n tot:Nat}{cs:List Value}(hlen:cs.length=tot):∀(l:List Field) (off:Nat),jh T tot off l=true→off≤tot →
  (∀f∈l,∀j,T f.type=some j→∃vs,CR w vs ((cs.drop f.offset).take j.size)∧ShB T Bd n f.type vs)→
  ∃vs,CR w vs (cs.drop off)∧∀f∈l,∃j,T f.type=some j∧off≤f.offset∧ShB T Bd n f.type ((vs.drop (f.offset-off)).take j.size)
 | [],off,h,hle,_=>by
  simp only[jh,beq_iff_eq]at h;refine⟨[],⟨by simp;omega,by simp,by simp⟩,by simp⟩
 | f::r,off,h,hle,hf=>by
  simp only[jh]at h;split at h
  ·rename_i j hj;simp only[oP,beq_iff_eq]at h;obtain⟨hoff,h⟩:=h;have hle2:off+j.size≤tot:=lay_le r _ h;obtain⟨vs,hcr,hsh⟩:=hf f (by simp) j hj;obtain⟨ws,hcr2,hws⟩:=lG hlen r (off+j.size) h hle2 (fun g hg=>hf g (by simp[hg]))
   have hvl:vs.length=j.size:=by rw[hcr.len,hoff,ot,pk];omega
   refine⟨vs++ws,?_,fun g hg=>?_⟩
   ·have:=hcr.append hcr2
    rwa [hoff,←List.drop_drop,pc]at this
   ·rcases List.mem_cons.1 hg with rfl | hg
    ·refine⟨j,hj,by omega,?_⟩;rw[hoff,px,pC,qg (by omega),pA (by omega)];exact hsh
    ·obtain⟨j2,hj2,hle3,hs2⟩:=hws g hg;refine⟨j2,hj2,by omega,?_⟩;rw[List.drop_append,oV (by omega),pH,hvl,show g.offset-off-j.size=g.offset-(off+j.size) by omega];exact hs2
  ·cases h
where
 lay_le {tot:Nat} : ∀(l:List Field) (off:Nat),jh T tot off l=true→off≤tot
  | [],off,h=>by simp only[jh,beq_iff_eq]at h;omega
  | f::r,off,h=>by
   simp only[jh]at h;split at h
   ·simp only[oP]at h;have:=lay_le r _ h.2;omega
   ·cases h
theorem opnB{bk:DataW Hd→Nat}(hB:BulkOk bk)(hT:TOk P T)(hc:∀t i,T t=some i→P.cellsOf t=i.size):∀(n fuel:Nat) (t:TypeId) (cs:List Value) (x:DataW Hd×List MemPlace),ShOk T n t=true→DataW.trod enc P w 0 (fun _=>true) held fuel t cs=some x→bk x.1≤Bd→∃vs,CR w vs cs∧ShB T Bd n t vs
 | 0,_,_,_,_,h,_,_=>by simp[ShOk]at h
 | n+1,fuel,t,cs,x,h,ht,hbd=>by
  simp only[ShOk]at h;split at h
  ·cases h
  ·rename_i i hi;have hu:=hT.und t i hi;have hcell:=hc t i hi;split at h
   ·rename_i hd;rw[hd]at hu
    cases fuel with
    | zero=>simp[DataW.trod]at ht
    | succ m =>
     unfold DataW.trod at ht;rw[hu]at ht;split at ht<;>simp_all;exact⟨_,CR.single (.bool _) rfl,by simp[ShB,hi,hd]⟩
   ·rename_i k hd;rw[hd]at hu
    cases fuel with
    | zero=>simp[DataW.trod]at ht
    | succ m =>
     unfold DataW.trod at ht;rw[hu]at ht;split at ht<;>simp_all;exact⟨_,CR.single (.int _ _) rfl,by simp[ShB, *]⟩
   ·rename_i hd;rw[hd]at hu
    cases fuel with
    | zero=>simp[DataW.trod]at ht
    | succ m =>
     unfold DataW.trod at ht;rw[hu]at ht;split at ht<;>simp_all;exact⟨_,CR.single (.str _) rfl,by simp[ShB, *]⟩
   ·rename_i e hd;rw[hd]at hu;split at h
    ·rename_i j hj;simp only[oP,decide_eq_true_eq,pW,beq_iff_eq]at h;obtain⟨⟨hz,hag⟩,hok⟩:=h
     rcases open_slice hu ht with⟨rfl,_⟩ | ⟨a,len,cap,m,q,D,Pl,rfl,_,hle,hcap,hm,hxe,hel⟩
     ·exact⟨[.lst j.size false []],CR.single (bw _ false _ _ (by simp)) rfl,by simp only[ShB,hi,hd,hj];exact⟨[],rfl,by simp,by simp,by simp⟩⟩
     ·simp only[if_true]at hm;subst hm;rw[hc e j hj]at hel
      have hxb:∀i,i<len→bk (D i)≤Bd:=fun i hi'=>pY (hB.elem _ _ (D i) (List.mem_map.2 ⟨i,List.mem_range.2 hi',rfl⟩)) (by rw[hxe]at hbd;exact hbd)
      have hlb:len≤Bd:=by
       have h1:=hB.len ((oM len).map D) ((oM (m-len)).map fun j=>D (len+j));rw[oW,rC]at h1;rw[hxe]at hbd;exact pY h1 hbd
      have hex:∀i,i<len→∃ws:List V,ShB T Bd n e ws∧ws.length=j.size∧(∀v∈ws,v.one=true)∧∀(l:Nat) v,ws[l]?=some v→∃c,w.cell? (a.add (i*j.size+l))=some c∧Rel (base (fun _=>False) w) v c:=fun i hil=>by
       obtain⟨cs',h1,h2⟩:=hel i (by omega);obtain⟨ws,hcr,hsh⟩:=opnB hB hT hc n q e cs' _ hok h2 (hxb i hil);obtain⟨_,hcl,hat⟩:=World.cells?_some h1;refine⟨ws,hsh,by rw[hcr.len,hcl],hcr.one,fun l v hv=>?_⟩
       have hl:l<j.size:=by have:=aB hv;rw[hcr.len,hcl]at this;exact this
       have hcv:cs'[l]?=some (cs'[l]'(by omega)):=oG (by omega);have:=hat l hl;rw[hcv,add_add]at this;exact⟨_,this,hcr.rel l v _ hv hcv⟩
      obtain⟨W,hW⟩:=choose_lt hex
      obtain⟨xs,hxs⟩:∃xs:List V,xs=(oM len).map fun i=>(if bY j.desc then V.agg (W i) else(W i).headD .undef):=⟨_,rfl⟩
      have hxl:xs.length=len:=by simp[hxs]
      have hxat:∀(i:Nat) y,xs[i]?=some y→i<len∧y=(if bY j.desc then V.agg (W i) else(W i).headD .undef)∧y.cells=W i:=fun i y hy=>by
       have hil:i<len:=by have:=aB hy;omega
       rw[hxs,oc,qZ hil]at hy;simp only[pB,Option.some.injEq]at hy;obtain⟨_,hwl,hw1,_⟩:=hW i hil;refine⟨hil,hy.symm,?_⟩;rw[←hy];split
       ·rfl
       ·rename_i hna
        have hz1:j.size=1:=by rcases hag with h | h;exact absurd h hna;exact h
        obtain⟨v,hv⟩:=List.length_eq_one_iff.1 (hwl.trans hz1);rw[hv];exact one_cells (hw1 v (by rw[hv];simp))
      have hsh:∀y∈xs,∃ws,ShB T Bd n e ws∧ws.length=j.size∧y=(if bY j.desc then V.agg ws else ws.headD .undef):=fun y hy=>by
       obtain⟨i,hi'⟩:=List.mem_iff_getElem?.1 hy;obtain⟨hil,hye,_⟩:=hxat i y hi';exact⟨W i,(hW i hil).1,(hW i hil).2.1,hye⟩
      refine⟨[.lst j.size false xs],CR.single ?_ rfl,by simp only[ShB,hi,hd,hj];exact⟨xs,rfl,by omega,by omega,hsh⟩⟩
      ·have hspot:0<len→a.spot=none∧a.block<w.heap.size:=fun h0=>by
        obtain⟨_,hwl,_,hcv⟩:=hW 0 h0;obtain⟨c,hcc,_⟩:=hcv 0 (W 0)[0] (oG (by omega));simp only[pz,qH]at hcc;have hb:=World.block_lt_of_cell? w _ hcc;have hs:=spot_cell hcc;simpa[Addr.add] using And.intro hs hb
       have:=Rel.lst (s:=base (fun _=>False) w) j.size false xs (some a) m a.block a.off (fun i l=>(w.cell? ⟨a.block,a.off+i*j.size+l,none⟩).getD undef) (by omega) (by simp) (fun h0=>by
         obtain⟨h1,h2⟩:=hspot (by omega)
         exact⟨by cases a;simp_all,h2,fun h=>h,fun k hk=>by have:=hk.1;simp[base]at this⟩)
        (fun y hy=>by
         obtain⟨i,hi'⟩:=List.mem_iff_getElem?.1 hy;obtain⟨hil,_,hyc⟩:=hxat i y hi';rw[hyc]
         exact⟨(hW i hil).2.1,(hW i hil).2.2.1⟩)
        (fun i y l c hy hcc=>by
         obtain⟨hil,_,hyc⟩:=hxat i y hy;rw[hyc]at hcc;obtain⟨u,hu1,_⟩:=(hW i hil).2.2.2 l c hcc;rw[addr_at (hspot (by omega)).1,←pm]at hu1;show w.cell? _=_
         rw[hu1];rfl)
        (fun i y l c hy hcc=>by
         obtain⟨hil,_,hyc⟩:=hxat i y hy;rw[hyc]at hcc;obtain⟨u,hu1,hu2⟩:=(hW i hil).2.2.2 l c hcc;rw[addr_at (hspot (by omega)).1,←pm]at hu1;rw[hu1]
         exact hu2)
       rwa [hxl]at this
    ·cases h
   ·rename_i fs hd;rw[hd]at hu;simp only[oP,pR]at h;obtain⟨xs,q,_,hxe,hlen,hxl,hf⟩:=DataW.trod_struct hu ht;rw[hcell]at hlen
    obtain⟨vs,hcr,hvs⟩:=lG (T:=T) (Bd:=Bd) (w:=w) (n:=n) hlen fs.toList 0 h.1 (qV _) (fun f hfm j hj=>by
     obtain⟨k,hk⟩:=List.mem_iff_getElem?.1 hfm
     have hk':fs[k]?=some f:=by simpa using hk
     have h1:=hf k f hk'
     have hkl:k<xs.length:=by rw[hxl];exact(Array.getElem?_eq_some_iff.1 hk').1
     rw[oG hkl,hc f.type j hj]at h1
     exact opnB hB hT hc n q f.type _ _ (h.2 f hfm) h1 (pY (hB.part _ _ (List.mem_map.2 ⟨_,oI hkl,rfl⟩)) (by rw[hxe]at hbd;exact hbd)))
    rw[pC]at hcr;refine⟨vs,hcr,?_⟩;simp only[ShB,hi,hd];refine⟨by rw[hcr.len,hlen],fun f hfm=>?_⟩;obtain⟨j,hj,_,hs⟩:=hvs f hfm;exact⟨j,hj,by simpa using hs⟩
   ·cases h
end
end
end
end Go.AM
namespace Go.Proofs.YtdnhplencamncaaGreatDoor
section
open Go Go.AM
theorem bulk_one{H:Type}(d:DataW H):1≤Rows.uptoBulk d:=by
 cases d with
 | lit l=>cases l<;>simp[Rows.uptoBulk]
 | nil=>simp[Rows.uptoBulk]
 | ptr d=>simp[Rows.uptoBulk]
 | slice a b=>simp[Rows.uptoBulk]
 | agg l=>simp[Rows.uptoBulk]
 | iface t d=>simp[Rows.uptoBulk]
 | map l=>simp[Rows.uptoBulk]
 | held h=>simp[Rows.uptoBulk]
theorem bulk_mem{H:Type}{d:DataW H} : ∀{l:List (DataW H)},d∈l→Rows.uptoBulk d≤Rows.uptoBulkAll l
 | [],h=>by cases h
 | x::r,h=>by
  rw[Rows.uptoBulkAll]
  rcases List.mem_cons.1 h with rfl | h
  ·omega
  ·have:=bulk_mem h;omega
theorem bulk_len{H:Type} : ∀l:List (DataW H),l.length≤Rows.uptoBulkAll l
 | []=>by simp
 | x::r=>by
  rw[Rows.uptoBulkAll,og];have:=bulk_one x;have:=bulk_len r;omega
theorem bulk_ok{H:Type} : BulkOk (H:=H) Rows.uptoBulk where
 len es sp:=by rw[Rows.uptoBulk];have:=bulk_len es;omega
 elem es sp d h:=by rw[Rows.uptoBulk];have:=bulk_mem h;omega
 part ps d h:=by rw[Rows.uptoBulk];have:=bulk_mem h;omega
theorem bulk_le{H:Type}{l:List (DataW H)}(h:Rows.uptoSmall H l=true):Rows.uptoBulkAll l≤1048576:=of_decide_eq_true h
end
end Go.Proofs.YtdnhplencamncaaGreatDoor
namespace Go.AM
section
open Go
section
section
variable {P:Program} {T:Ty}
theorem lA{ops:Array Oper}{fr:List V}{val val':Nat→V}{D:Nat→Bool}{t:Nat}(h:∀k,D k=true→val k=val' k):∀n,bK ops fr val D n t=bK ops fr val' D n t
 | 0=>rfl
 | n+1=>by
  simp only[bK];rw[lA h n];by_cases hD:D n=true
  ·rw[h n hD]
  ·rw[if_neg (fun hh=>hD hh.1),if_neg (fun hh=>hD hh.1)]
theorem drawJ_sound(hT:TOk P T){ops:Array Oper}{E:Bool→List Nat}{val:Bool→Nat→V}{Hs:Bool→Nat→List B}{fr:List V}{s0:St}{Q:Exit→Act→World→Prop}(hz0:GOk P s0)
  (hst:eU ops []=true) (hE:∀j,∀e∈E j,e<ops.size) (hnd:∀j,(E j).Nodup) (hperm:∀j j' e,e∈E j'→e∈E j)
  (hsw:∀j c i,i∈(E j).drop c→(∀e∈(E j).drop c,e≠i→bef (aM [] ops.toList) e i=false)→∃j',(E j').length=(E j).length∧(E j').take c=(E j).take c∧(E j')[c]?=some i∧Hs j' c=Hs j c∧∀k,(∀e∈(E j).drop c,k≠e∧bef (aM [] ops.toList) e k=false)→val j' k=val j k)
  (hcl:∀j i o,ops[i]?=some o→er T ops (aL P) (aM [] ops.toList) (E j) (Hs j) o i (aZ ops fr (val j) i) (val j i))
  (hQ:∀j s a,Good s→Step s0 s→FRel s (aZ ops fr (val j) ops.size) a.tmps→a.defers=[]→s.H=Hs j (E j).length→Q .normal a s.w):
  ∀(fuel:Nat) (listed:Array Bool) (s:St) (a:Act) (j:Bool) (c:Nat),listed.size=ops.size→jI ops (fun i=>listed.getD i false)→
   ((oM ops.size).filter fun i=>!(listed.getD i false)).length≤fuel→c≤(E j).length→(∀k e,(E j)[k]?=some e→(listed.getD e false=true↔k<c))→
   Good s→Step s0 s→s.H=Hs j c→FRel s (ah ops fr (val j) fun i=>listed.getD i false) a.tmps→a.defers=[]→wpAny P .any ops Q fuel listed a s.w:=by
 simp only[eU,oP,pR,decide_eq_true_eq,qK]at hst;have hops:=hst.2
 have hback:∀(j:Nat) (o:Oper),ops[j]?=some o→∀e∈o.after.toList,Region.binds .any e=true→e.on<j:=fun j o ho e he hbd=>by
  have hj:=(Array.getElem?_eq_some_iff.1 ho).1;have:=hops j hj;rw[ho]at this;simp only[oP,pR]at this;have h1:=this.1.1 e he;rw[hbd]at h1;simpa using h1
 have htmp:∀(j i:Nat) (oj oi:Oper) (t:Nat),ops[j]?=some oj→ops[i]?=some oi→t∈cC ops oj→oi.dst=some t→i=j∨(i<j∧bef (aM [] ops.toList) i j=true)∨(j<i∧bef (aM [] ops.toList) j i=true):=fun j i oj oi t hoj hoi ht hd=>by
  have hj:=(Array.getElem?_eq_some_iff.1 hoj).1;have hi:=(Array.getElem?_eq_some_iff.1 hoi).1;have:=hops j hj;rw[hoj]at this;simp only[oP,pR]at this;have h2:=this.1.2 t ht i (by simpa using hi);rw[hoi]at h2;simp only[hd,pW,oP,decide_eq_true_eq,beq_iff_eq,pZ,beq_eq_false_iff_ne,ne_eq,not_true_eq_false,false_or]at h2
  rcases h2 with(h | h) | h
  ·exact .inl h
  ·exact .inr (.inl h)
  ·exact .inr (.inr h)
 have hmask:∀(D:Nat→Bool),jI ops D→∀i j,j<ops.size→bef (aM [] ops.toList) i j=true→D j=true→D i=true:=fun D hD i j hj hb hDj=>by
  obtain⟨ms,h1,h2,_⟩:=ft ops.toList [];rw[pH]at h1
  have hlen:(aM [] ops.toList).length=ops.size:=by rw[h1,h2];simp
  have hm:(aM [] ops.toList)[j]?=some ((aM [] ops.toList)[j]'(by omega)):=oG (by omega);unfold bef at hb;rw[hm]at hb;exact lJ hD hback j i _ hm hb hDj
 have fin:∀(listed:Array Bool) (s:St) (a:Act) (jj:Bool) (c:Nat),(∀i,i<ops.size→listed.getD i false=true)→c≤(E jj).length→(∀k e,(E jj)[k]?=some e→(listed.getD e false=true↔k<c))→Good s→Step s0 s→s.H=(Hs jj) c →
   FRel s (ah ops fr (val jj) fun i=>listed.getD i false) a.tmps→a.defers=[]→Q .normal a s.w:=fun listed s a jj c hall hc hpre hg hs hH hf hd=>by
  have hcE:c=(E jj).length:=by
   rcases pS c (E jj).length with h | h
   ·have he:(E jj)[c]?=some (E jj)[c]:=oG h;have:=(hpre c _ he).1 (hall _ (hE jj _ (oI h)));omega
   ·omega
  subst hcE;refine hQ jj s a hg hs ?_ hd hH
  have:(ah ops fr (val jj) fun i=>listed.getD i false)=aZ ops fr (val jj) ops.size:=by
   apply pT;intro t;rw[cB,dF];refine cJ (fun j hj _=>hall j hj) (fun j hj hdst=>?_) ops.size (oJ _);rw[qX hj]at hdst;simp at hdst
  rwa [this]at hf
 have done:∀(listed:Array Bool),listed.size=ops.size→Region.ready .any ops listed=[]→∀i,i<ops.size→listed.getD i false=true:=fun listed hsz hr i=>by
  induction i using rK with
  | _ i ih =>
   intro hi
   cases hD:listed.getD i false with
   | true=>rfl
   | false =>
    exfalso
    have hmem:i∈Region.ready .any ops listed:=by
     unfold Region.ready;rw[qF]
     have ho:ops[i]?=some ops[i]:=by simp[hi]
     have hil:i<listed.size:=by omega
     refine⟨by simpa using hi,?_⟩;rw[ho];simp only[pB,qG,oP,pZ];refine⟨by simp[rA,hil]at hD ⊢;exact hD,?_⟩;rw[rL];intro e he;by_cases hbd:Region.binds .any e=true
     ·have hlt:=hback i _ ho e (by simpa using he) hbd;simp[ih e.on hlt (by omega)]
     ·simp[hbd]
    rw[hr]at hmem;simp at hmem
 intro fuel
 induction fuel with
 | zero =>
  intro listed s a jj c hsz hcl2 hcnt hc hpre hg hs hH hf hd
  have hall:∀i,i<ops.size→listed.getD i false=true:=fun i hi=>by
   cases hD:listed.getD i false with
   | true=>rfl
   | false =>
    exfalso
    have:i∈(oM ops.size).filter fun i=>!(listed.getD i false):=by rw[qF];exact⟨by simpa using hi,by simp only[hD];rfl⟩
    have h0:((oM ops.size).filter fun i=>!(listed.getD i false))=[]:=pX (by omega);rw[h0]at this;simp at this
  refine⟨?_,fin listed s a jj c hall hc hpre hg hs hH hf hd⟩;unfold Region.ready;rw[List.filter_eq_nil_iff];intro i hi
  have hil:i<listed.size:=by rw[hsz];simpa using hi
  have:=hall i (by simpa using hi)
  have h1:listed.getD i true=true:=by simpa[rA,hil] using this
  simp[h1]
 | succ fuel ih =>
  intro listed s a jj c hsz hcl2 hcnt hc hpre hg hs hH hf hd;refine⟨fun hr=>fin listed s a jj c (done listed hsz hr) hc hpre hg hs hH hf hd,fun i hi=>?_⟩;unfold Region.ready at hi;rw[qF]at hi;obtain⟨hin,hcond⟩:=hi
  have hin:i<ops.size:=by simpa using hin
  have hil:i<listed.size:=by omega
  have ho:ops[i]?=some ops[i]:=by simp[hin]
  generalize ops[i]=o at ho;rw[ho]at hcond;simp only[pB,qG,oP,pZ]at hcond;obtain⟨hDi,hedge⟩:=hcond
  have hDi:listed.getD i false=false:=by simp only[rA,hil,dif_pos]at hDi ⊢;exact hDi
  rw[rL]at hedge
  have hD':∀j,(listed.setIfInBounds i true).getD j false=if j=i then true else listed.getD j false:=fun j=>by
   by_cases hj:j=i
   ·subst hj;simp[rA,hil]
   ·rw[if_neg hj,qA,qA,qJ (Ne.symm hj)]
  have hclosed':jI ops (fun j=>(listed.setIfInBounds i true).getD j false):=fun j oj hoj hj e he hb=>by
   simp only[hD']at hj ⊢;by_cases hji:j=i
   ·subst hji;rw[ho]at hoj;cases hoj;have:=hedge e (by simpa using he);rw[hb]at this;simp at this;split
    ·rfl
    ·simpa using this
   ·rw[if_neg hji]at hj;split
    ·rfl
    ·exact hcl2 j oj hoj hj e he hb
  have before:∀j,j≠i→bef (aM [] ops.toList) j i=true→listed.getD j false=true:=fun j hji hb=>by
   have:=hmask _ hclosed' j i hin hb (by simp[hD']);simp only[hD',if_neg hji]at this;exact this
  have behind:∀j,j<ops.size→bef (aM [] ops.toList) i j=true→listed.getD j false=false:=fun j hj hb=>by
   cases hDj:listed.getD j false with
   | false=>rfl
   | true=>have:=hmask _ hcl2 i j hj hb hDj;rw[hDi]at this;cases this
  have hsel:∃j',(E j').length=(E jj).length∧(∀k e,(E j')[k]?=some e→(listed.getD e false=true↔k<c))∧s.H=Hs j' c∧FRel s (ah ops fr (val j') fun i=>listed.getD i false) a.tmps∧(i∈E j'→(E j')[c]?=some i):=by
   by_cases hiE:i∈E jj
   ·obtain⟨ki,hki⟩:=qU hiE
    have hkc:c≤ki:=by
     rcases pS ki c with h | h
     ·have:=(hpre ki i hki).2 h;rw[hDi]at this;cases this
     ·exact h
    have hin':i∈(E jj).drop c:=oH (i:=ki-c) (by rw[pP,qb hkc];exact hki)
    have notl:∀e∈(E jj).drop c,listed.getD e false=false:=fun e he=>by
     obtain⟨k,hk⟩:=qU he;rw[pP]at hk
     cases hD:listed.getD e false with
     | false=>rfl
     | true=>have:=(hpre _ e hk).1 hD;omega
    obtain⟨j',h1,h2,h3,h4,h5⟩:=hsw jj c i hin' (fun e he hne=>by
     cases hb:bef (aM [] ops.toList) e i with
     | false=>rfl
     | true=>have:=before e hne hb;rw[notl e he]at this;cases this)
    refine⟨j',h1,fun k e hk=>?_,hH.trans h4.symm,?_,fun _=>h3⟩
    ·rcases pS k c with hkc | hkc
     ·have hk2:(E jj)[k]?=some e:=by
       have e1:((E j').take c)[k]?=some e:=by rw[pD,if_pos hkc];exact hk
       rw[h2,pD,if_pos hkc]at e1;exact e1
      exact hpre k e hk2
     ·constructor
      ·intro hD;exfalso;have hmem:e∈E jj:=hperm jj j' e (oH hk);obtain⟨k2,hk2⟩:=qU hmem;have hlt:=(hpre k2 e hk2).1 hD
       have e1:((E jj).take c)[k2]?=some e:=by rw[pD,if_pos hlt];exact hk2
       rw[←h2,pD,if_pos hlt]at e1;have hk2l:=aB e1;have hkl:=aB hk
       have e2:(E j')[k2]=e:=by rw[oG hk2l]at e1;exact Option.some.inj e1
       have e3:(E j')[k]=e:=by rw[oG hkl]at hk;exact Option.some.inj hk
       have:=(List.getElem_inj (hnd j')).1 (e2.trans e3.symm);omega
      ·intro h;omega
    ·have hv:(ah ops fr (val j') fun i=>listed.getD i false)=(ah ops fr (val jj) fun i=>listed.getD i false):=by
      apply pT;intro t;rw[cB,cB];refine lA (fun k hk=>?_) _
      refine h5 k fun e he=>⟨fun h=>?_,?_⟩
      ·subst h;rw[notl _ he]at hk;cases hk
      ·cases hb:bef (aM [] ops.toList) e k with
       | false=>rfl
       | true =>
        have hkl:k<ops.size:=by
         rcases pS k ops.size with h | h
         ·exact h
         ·rw[qA,qX (by omega)]at hk;cases hk
        have:=hmask _ hcl2 e k hkl hb hk;rw[notl e he]at this;cases this
     rw[hv];exact hf
   ·exact⟨jj,rfl,hpre,hH,hf,fun h=>absurd h hiE⟩
  obtain⟨j',hj1,hj2,hj3,hj4,hj5⟩:=hsel;rw[←hj1]at hc;clear hpre hH hf;have hpre:=hj2;have hH:=hj3;have hf:=hj4;clear hj2 hj3 hj4 hj1;clear jj
  rename Bool=>jj
  have meets:∀t,t∈cC ops o→(∀j,j<i→(ops[j]?).bind (·.dst)=some t→listed.getD j false=true)∧(∀j,i<j→(ops[j]?).bind (·.dst)=some t→listed.getD j false=false):=fun t ht=>by
   refine⟨fun j hj hdst=>?_,fun j hj hdst=>?_⟩
   ·cases hoj:ops[j]? with
    | none=>rw[hoj]at hdst;simp at hdst
    | some oj =>
     rw[hoj]at hdst
     rcases htmp i j o oj t ho hoj ht (by simpa using hdst) with h | h | h
     ·omega
     ·exact before j (by omega) h.2
     ·omega
   ·cases hoj:ops[j]? with
    | none=>rw[hoj]at hdst;simp at hdst
    | some oj =>
     rw[hoj]at hdst
     rcases htmp i j o oj t ho hoj ht (by simpa using hdst) with h | h | h
     ·omega
     ·omega
     ·exact behind j (Array.getElem?_eq_some_iff.1 hoj).1 h.2
  have agree:∀t,t∈cC ops o→(ah ops fr (val jj) fun i=>listed.getD i false)[t]?=(aZ ops fr (val jj) i)[t]?:=fun t ht=>by
   rw[cB,dF];refine cJ (meets t ht).1 (fun j hj hdst=>?_) ops.size (by omega);by_cases hji:j=i
   ·subst hji;exact hDi
   ·exact(meets t ht).2 j (by omega) hdst
  have hop:∀x∈o.op.operands,aO (ah ops fr (val jj) fun i=>listed.getD i false) x=aO (aZ ops fr (val jj) i) x:=fun x hx=>by
   refine lL fun t e=>agree t ?_
   subst e;simp only[cC,Oper.looksAt,qB,List.mem_filterMap];exact .inl (.inl ⟨.tmp t,by simpa using hx,rfl⟩)
  have hwant:bA ops (ah ops fr (val jj) fun i=>listed.getD i false) o=bA ops (aZ ops fr (val jj) i) o:=by
   unfold bA
   cases hgd:o.guard with
   | none=>rfl
   | some g =>
    obtain⟨j,want⟩:=g;simp only
    cases hoj:ops[j]? with
    | none=>rfl
    | some oj =>
     simp only
     cases hdj:oj.dst with
     | none=>rfl
     | some d =>
      simp only;rw[agree d (by simp[cC,Oper.looksAt,hgd,hoj,hdj])]
  have next:∀{s1:St} {u:Value} {c':Nat},Good s1→Step s s1→Rel s1 ((val jj) i) u→c'≤(E jj).length→s1.H=(Hs jj) c'→(∀k e,(E jj)[k]?=some e→((listed.setIfInBounds i true).getD e false=true↔k<c'))→
    wpAny P .any ops Q fuel (listed.setIfInBounds i true) (a.put o.dst u) s1.w:=fun {s1 u c'} g1 g2 g3 g4 g5 g6=>by
   refine ih _ s1 _ jj c' (by simp[hsz]) hclosed' ?_ g4 g6 g1 (hs.trans g2) g5 ?_ (by rw[eW];exact hd)
   ·have:=gq (p:=fun j=>!(listed.getD j false)) (q:=fun j=>!((listed.setIfInBounds i true).getD j false)) (i:=i) (by simp only[hDi];rfl) (by simp[hD']) (fun j hj=>by
     simp only[hD']at hj;split at hj
     ·simp at hj
     ·exact hj) (l:=oM ops.size) (by simpa using hin)
    omega
   ·have hnow:(ah ops fr (val jj) fun j=>(listed.setIfInBounds i true).getD j false)=ak (ah ops fr (val jj) fun j=>listed.getD j false) o.dst ((val jj) i):=by
     apply pT;intro t;rw[cB]
     cases hdst:(o.dst:Option Nat) with
     | none =>
      simp only[ak];rw[cB];refine dA (fun j hj=>?_) _;simp only[hD'];split
      ·rename_i hji;subst hji;rw[ho]at hj;simp[hdst]at hj
      ·rfl
     | some d =>
      simp only[ak]
      have hlen:(ah ops fr (val jj) fun j=>listed.getD j false).length=fr.length:=by simp[ah]
      by_cases hdt:d=t
      ·subst hdt;have hm:=meets d (by simp[cC,hdst])
       have e1:=cJ (fr:=fr) (val:=val jj) (D:=fun j=>(listed.setIfInBounds i true).getD j false) (i:=i+1) (t:=d) (fun j hj hdj=>by
        simp only[hD'];split
        ·rfl
        ·exact hm.1 j (by omega) hdj) (fun j hj hdj=>by
        simp only[hD'];rw[if_neg (by omega)]
        exact hm.2 j (by omega) hdj) ops.size (by omega)
       rw[e1];simp only[bK];by_cases hlt:d<fr.length
       ·rw[if_pos ⟨trivial,by rw[ho];simpa using hdst,hlt⟩,oX (by rw[hlen];exact hlt)]
       ·rw[if_neg (by simp[hlt]),qY,if_pos rfl,if_neg (by rw[hlen];exact hlt)];have:=eu (ops:=ops) (fr:=fr) (val:=val jj) (D:=fun _=>true) i d
        cases h:bK ops fr (val jj) (fun _=>true) i d with
        | none=>rfl
        | some v=>rw[h]at this;simp[hlt]at this
      ·rw[oQ hdt,cB];refine dA (fun j hj=>?_) _;simp only[hD'];split
       ·rename_i hji;subst hji;rw[ho]at hj;simp[hdst]at hj;exact absurd hj hdt
       ·rfl
    rw[hnow];exact(hf.step g2).put g3 o.dst
  have sameE:i∉(E jj)→∀k e,(E jj)[k]?=some e→((listed.setIfInBounds i true).getD e false=true↔k<c):=fun hiE k e he=>by
   rw[hD',if_neg (fun h:e=i=>hiE (by rw[←h];exact oH he))];exact hpre k e he
  have hpos:i∉(E jj)→fm (aM [] ops.toList) (E jj) i c=true:=fun hiE=>by
   simp only[fm,pR,qK];intro k hk;have he:(E jj)[k]?=some (E jj)[k]:=oG hk;rw[he];simp only;split
   ·rename_i hkc;have hD:=(hpre k _ he).2 hkc
    cases hb:bef (aM [] ops.toList) i (E jj)[k] with
    | false=>rfl
    | true=>have:=behind _ (hE jj _ (oI hk)) hb;rw[hD]at this;cases this
   ·rename_i hkc
    cases hb:bef (aM [] ops.toList) (E jj)[k] i with
    | false=>rfl
    | true =>
     have:=before _ (fun h=>hiE (h▸oI hk)) hb;exact absurd ((hpre k _ he).1 this) hkc
  have eff:i∈E jj→(E jj).idxOf i=c∧(∀k' e,(E jj)[k']?=some e→((listed.setIfInBounds i true).getD e false=true↔k'<c+1))∧c+1≤(E jj).length:=fun hiE=>by
   have hk:=hj5 hiE;have hkl:=aB hk
   have hidx:(E jj).idxOf i=c:=by
    have h1:=List.idxOf_lt_length_of_mem hiE
    have h2:(E jj)[(E jj).idxOf i]=i:=by simp
    have h3:(E jj)[c]=i:=by rw[oG hkl]at hk;exact Option.some.inj hk
    exact(List.getElem_inj (hnd jj)).1 (h2.trans h3.symm)
   refine⟨hidx,fun k' e he=>?_,by omega⟩;rw[hD'];by_cases hei:e=i
   ·subst hei;have hkl':=aB he
    have h2:(E jj)[k']=e:=by rw[oG hkl']at he;exact Option.some.inj he
    have h3:(E jj)[c]=e:=by rw[oG hkl]at hk;exact Option.some.inj hk
    have:=(List.getElem_inj (hnd jj)).1 (h2.trans h3.symm);simp;omega
   ·rw[if_neg hei,hpre k' e he];constructor
    ·omega
    ·intro h
     rcases pS k' c with h' | h'
     ·exact h'
     ·exfalso
      have hk'c:k'=c:=by omega
      subst hk'c;rw[hk]at he;cases he;exact hei rfl
  have hclause:=hcl jj i o ho;unfold er at hclause;rw[←hwant]at hclause;unfold wpOp;rw[ho];simp only;split at hclause
  ·
   rename_i hw;rw[dO hf hw];simp only[oZ,if_false]
   have hiE:i∉(E jj):=by simpa using hclause.2
   exact next hg (Step.refl s) (by rw[hclause.1];exact .tup [] #[] rfl (by simp)) hc hH (sameE hiE)
  ·rename_i hw;rw[dO hf hw];simp only[if_true];left;split at hclause
   ·
    rename_i f args hcall
    have hin2:f∈o.op.operands∧∀x∈args,x∈o.op.operands:=by
     unfold aj at hcall;split at hcall
     ·rename_i cc hoc;split at hcall
      ·rename_i f' hcal;cases hcall;rw[hoc];simp only[Op.operands,Call.operands,hcal];exact⟨by simp,fun x hx=>by simp;exact .inr (by simpa using hx)⟩
      ·cases hcall
     ·cases hcall
    have hf1:aO (aZ ops fr (val jj) i) f=aO (ah ops fr (val jj) fun i=>listed.getD i false) f:=(hop f hin2.1).symm
    have hf2:args.map (aO (aZ ops fr (val jj) i))=args.map (aO (ah ops fr (val jj) fun i=>listed.getD i false)):=oo fun x hx=>(hop x (hin2.2 x hx)).symm
    split at hclause
    ·rename_i hEi
     have hiE:i∈(E jj):=by simpa using hEi
     obtain⟨hidx,hpre',hcE⟩:=eff hiE;have hcc:=hclause;rw[hidx,←hH]at hcc;rw[hf1,hf2]at hcc;refine en hcall (hz0.step hs) hg hf hcc (fun u s1 r g1 g2 g3 g4=>?_);obtain⟨rfl,g5⟩:=g4;exact next g1 g2 g3 hcE g5 hpre'
    ·rename_i hEi
     have hiE:i∉(E jj):=by simpa using hEi
     have hcc:=cF hclause c (by simp;omega);rw[if_pos (hpos hiE),←hH]at hcc;rw[hf1,hf2]at hcc;refine en hcall (hz0.step hs) hg hf hcc (fun u s1 r g1 g2 g3 g4=>?_);obtain⟨rfl,g5⟩:=g4;exact next g1 g2 g3 hc (g5.trans hH) (sameE hiE)
   ·split at hclause
    ·
     rename_i hEi
     have hiE:i∈(E jj):=by simpa using hEi
     obtain⟨hidx,hpre',hcE⟩:=eff hiE;rw[hidx,←iS (ρ:=aO (ah ops fr (val jj) fun i=>listed.getD i false)) hop,←hH]at hclause;obtain⟨nx,s1,k1,k2,k3,k4,k5⟩:=fg (P:=P) hT hg (fun x=>hf.eval x) hclause;unfold Oper.wp;rw[k1]
     rcases k5 with⟨u,rfl,hr⟩ | ⟨rfl,hv⟩
     ·rw[Oper.upon_value];exact next k3 k4 hr hcE k2 hpre'
     ·rw[Oper.upon_skip];exact next k3 k4 (by rw[hv];exact .tup [] #[] rfl (by simp)) hcE k2 hpre'
    ·rename_i hEi
     have hiE:i∉(E jj):=by simpa using hEi
     have hcc:=cF hclause c (by simp;omega);rw[if_pos (hpos hiE),←iS (ρ:=aO (ah ops fr (val jj) fun i=>listed.getD i false)) hop,←hH]at hcc;obtain⟨nx,s1,k1,k2,k3,k4,k5⟩:=fg (P:=P) hT hg (fun x=>hf.eval x) hcc;unfold Oper.wp;rw[k1]
     rcases k5 with⟨u,rfl,hr⟩ | ⟨rfl,hv⟩
     ·rw[Oper.upon_value];exact next k3 k4 hr hc (k2.trans hH) (sameE hiE)
     ·rw[Oper.upon_skip];exact next k3 k4 (by rw[hv];exact .tup [] #[] rfl (by simp)) hc (k2.trans hH) (sameE hiE)
  ·exact hclause.elim
end
def obl2(T:Ty)(ops:Array Oper)(n:Nat)(E1 E2 D:List Nat)(H1 H2:Nat→List B)(K:List V→List B→Prop):List Oper→Nat→List V→List V→Prop
 | [],_,f1,f2=>K f1 (H1 n)∧K f2 (H2 n)
 | o::rest,i,f1,f2 =>
  if E1.contains i=true then
   (match aop T o.op (aO f1) (H1 (E1.idxOf i)),aop T o.op (aO f2) (H2 (E2.idxOf i)) with
    | some (v1,G1),some (v2,G2)=>(G1=H1 (E1.idxOf i+1)∧G2=H2 (E2.idxOf i+1))∧obl2 T ops n E1 E2 D H1 H2 K rest (i+1) (ak f1 o.dst v1) (ak f2 o.dst v2)
    | _,_=>False)
  else(match aop T o.op (aO f1) (H1 0),aop T o.op (aO f2) (H2 0) with
    | some (v1,G1),some (v2,G2)=>((if cZ o.op=true then True else dq (fun c=>aop T o.op (aO f1) (H1 c)=some (v1,H1 c)∧aop T o.op (aO f2) (H2 c)=some (v2,H2 c)) (oM (n+1)))∧(if D.contains i=true then True else v1=v2))∧obl2 T ops n E1 E2 D H1 H2 K rest (i+1) (ak f1 o.dst v1) (ak f2 o.dst v2)
    | _,_=>False)
def stat2K(ops:Array Oper)(E1 E2 D:List Nat):Bool :=
 let ms:=aM [] ops.toList
 eU ops []&&(E1.length == E2.length&&(decide E1.Nodup&&(decide E2.Nodup&&(E1.all (fun e=>E2.contains e&&decide (e<ops.size))&&(E2.all (fun e=>E1.contains e) &&
  ((oM ops.size).all (fun i=>(match ops[i]? with
    | some o=>o.guard.isNone&&((aj o.op).isNone&&(E1.contains i||bN o.op))
    | none=>true)&&(!D.contains i||E1.any fun e=>i == e||bef ms e i)) &&
  ([(E1,E2),(E2,E1)].all fun p=>(oM (E1.length+1)).all fun c=>(p.1.drop c).all fun i =>
   (!((p.1.drop c).all fun e=>e == i||!bef ms e i))||(p.1[c]? == some i||(c == 0&&p.2[0]? == some i)))))))))
section
variable {P:Program} {T:Ty}
def Out2(T:Ty)(ops:Array Oper)(n:Nat)(E1 E2 D:List Nat)(H1 H2:Nat→List B)(K:List V→List B→Prop)(C:V→List V→List B→(V→List B→Prop)→Prop)(l:List Oper)(i:Nat)(f1 f2:List V):Prop :=
 ∃vs1 vs2 g1 g2,vs1.length=l.length∧vs2.length=l.length∧bU T ops C (aM [] ops.toList) E1 H1 l i f1 vs1∧bU T ops C (aM [] ops.toList) E2 H2 l i f2 vs2 ∧
    (∀(val:Nat→V) (fr0:List V),(∀k,k<vs1.length→vs1[k]?=some (val (i+k)))→f1=aZ ops fr0 val i→g1=aZ ops fr0 val ops.size)∧
    (∀(val:Nat→V) (fr0:List V),(∀k,k<vs2.length→vs2[k]?=some (val (i+k)))→f2=aZ ops fr0 val i→g2=aZ ops fr0 val ops.size)∧
    (∀k,k<l.length→D.contains (i+k)=false→E1.contains (i+k)=false→vs1[k]?=vs2[k]?)∧K g1 (H1 n)∧K g2 (H2 n)
theorem obl2_ok{ops:Array Oper}{n:Nat}{E1 E2 D:List Nat}{H1 H2:Nat→List B}{K:List V→List B→Prop}{C:V→List V→List B→(V→List B→Prop)→Prop}
  (hl1:E1.length=n) (hl2:E2.length=n) (hmem:∀i,E1.contains i=E2.contains i)
  (hst:∀i o,ops[i]?=some o→o.guard=none∧aj o.op=none∧(E1.contains i=false→bN o.op=true)):
  ∀(l:List Oper) (i:Nat) (f1 f2:List V),l=ops.toList.drop i→obl2 T ops n E1 E2 D H1 H2 K l i f1 f2 →
   Out2 T ops n E1 E2 D H1 H2 K C l i f1 f2
 | [],i,f1,f2,hl,h=>by
  have hi:ops.size≤i:=by
   have:=congrArg List.length hl;simp at this;omega
  have hfr:∀(val:Nat→V) (fr0:List V),∀d,aZ ops fr0 val (ops.size+d)=aZ ops fr0 val ops.size:=fun val fr0 d=>by
   induction d with
   | zero=>rfl
   | succ d ih =>
    rw[show ops.size+(d+1)=(ops.size+d)+1 by omega,aZ,qX (by omega)];exact ih
  obtain⟨d,rfl⟩:=Nat.exists_eq_add_of_le hi;exact⟨[],[],f1,f2,rfl,rfl,trivial,trivial,fun val fr0 _ h=>by rw[h,hfr],fun val fr0 _ h=>by rw[h,hfr],fun k hk=>by simp at hk,h.1,h.2⟩
 | o::rest,i,f1,f2,hl,h=>by
  have ho:ops[i]?=some o:=by
   have:=congrArg (fun l=>l[0]?) hl;simp at this;exact this.symm
  have hrest:rest=ops.toList.drop (i+1):=by
   have:=congrArg rx hl;simpa using this
  obtain⟨hg,hc,hs⟩:=hst i o ho
  have hw:∀f,bA ops f o=some true:=fun f=>by unfold bA;rw[hg]
  have fin:∀v1 v2,er T ops C (aM [] ops.toList) E1 H1 o i f1 v1→er T ops C (aM [] ops.toList) E2 H2 o i f2 v2→(D.contains i=false→E1.contains i=false→v1=v2)→
    obl2 T ops n E1 E2 D H1 H2 K rest (i+1) (ak f1 o.dst v1) (ak f2 o.dst v2)→Out2 T ops n E1 E2 D H1 H2 K C (o::rest) i f1 f2:=fun v1 v2 c1 c2 hd hr=>by
   obtain⟨vs1,vs2,g1,g2,a1,a2,a3,a4,a5,a6,a7,a8,a9⟩:=obl2_ok (C:=C) hl1 hl2 hmem hst rest (i+1) _ _ hrest hr
   have fr:∀(f:List V) (v:V) (vs:List V) (g:List V),(∀(val:Nat→V) (fr0:List V),(∀k,k<vs.length→vs[k]?=some (val (i+1+k)))→ak f o.dst v=aZ ops fr0 val (i+1)→g=aZ ops fr0 val ops.size)→
     ∀(val:Nat→V) (fr0:List V),(∀k,k<(v::vs).length→(v::vs)[k]?=some (val (i+k)))→f=aZ ops fr0 val i→g=aZ ops fr0 val ops.size:=fun f v vs g hh val fr0 hv hf=>by
    have hv0:v=val i:=by have:=hv 0 (by simp);simpa using this
    refine hh val fr0 (fun k hk=>?_) ?_
    ·have:=hv (k+1) (by simp;omega);rw[pL]at this;rw[this,show i+(k+1)=i+1+k by omega]
    ·rw[aZ,ho,hv0,hf]
   refine⟨v1::vs1,v2::vs2,g1,g2,by simp[a1],by simp[a2],⟨c1,a3⟩,⟨c2,a4⟩,fr f1 v1 vs1 g1 a5,fr f2 v2 vs2 g2 a6,fun k hk hD hE=>?_,a8,a9⟩
   cases k with
   | zero=>simp only[qH]at hD hE;simp[hd hD hE]
   | succ k =>
    rw[pL,pL];exact a7 k (by simpa using hk) (by rw[show i+1+k=i+(k+1) by omega];exact hD) (by rw[show i+1+k=i+(k+1) by omega];exact hE)
  unfold obl2 at h;split at h
  ·rename_i hE;split at h
   ·rename_i v1 G1 v2 G2 q1 q2;obtain⟨⟨rfl,rfl⟩,hr⟩:=h;refine fin v1 v2 ?_ ?_ (fun _ hE'=>by rw[hE]at hE';cases hE') hr
    ·unfold er;simp only[hw,hc,hE,if_true];exact q1
    ·unfold er;simp only[hw,hc,hmem i▸hE,if_true];exact q2
   ·exact h.elim
  ·rename_i hE
   have hE:E1.contains i=false:=by simpa using hE
   have hE2:E2.contains i=false:=hmem i▸hE;split at h
   ·rename_i v1 G1 v2 G2 q1 q2;obtain⟨⟨hall,hd⟩,hr⟩:=h
    have each:∀c,c<n+1→aop T o.op (aO f1) (H1 c)=some (v1,H1 c)∧aop T o.op (aO f2) (H2 c)=some (v2,H2 c):=fun c hcl=>by
     split at hall
     ·rename_i hsc;exact⟨iC hsc q1 _,iC hsc q2 _⟩
     ·exact cF hall c (by simpa using hcl)
    refine fin v1 v2 ?_ ?_ (fun hD _=>?_) hr
    ·unfold er;simp only[hw,hc,hE,oZ,if_false]
     refine iK.allC_of fun c hcm=>?_
     split
     ·exact(each c (by rw[hl1]at hcm;simpa using hcm)).1
     ·trivial
    ·unfold er;simp only[hw,hc,hE2,oZ,if_false]
     refine iK.allC_of fun c hcm=>?_
     split
     ·exact(each c (by rw[hl2]at hcm;simpa using hcm)).2
     ·trivial
    ·rw[hD]at hd;simpa using hd
   ·exact h.elim
theorem W_draw2(hT:TOk P T)(hm:P.follows .mixedOrders=true){id:Nat}{ops:Array Oper}{Q:Exit→List V→List B→Prop}{fr:List V}{H:List B}(E1 E2 D:List Nat)(hs1 hs2:List (List B))(hst:stat2K ops E1 E2 D=true)
  (h:∀(K:List V→List B→Prop),(∀fr H,Q .normal fr H→K fr H)→obl2 T ops E1.length E1 E2 D (fun c=>((H::hs1)[c]?).getD []) (fun c=>((H::hs2)[c]?).getD []) K ops.toList 0 fr fr):W P (.region id ops true) Q fr H:=by
 intro s a hH hg hf hd;obtain⟨rfl,hz0⟩:=hH;have hob:=h (Q .normal) (fun _ _ h=>h);simp only[stat2K,oP,beq_iff_eq,decide_eq_true_eq]at hst;obtain⟨t1,t2,t3,t4,t5,t6,t7,t8⟩:=hst
 have m12:∀e∈E1,e∈E2∧e<ops.size:=fun e he=>by have:=List.all_eq_true.1 t5 e he;simpa using this
 have m21:∀e∈E2,e∈E1:=fun e he=>by have:=List.all_eq_true.1 t6 e he;simpa using this
 have hmem:∀i,E1.contains i=E2.contains i:=fun i=>by
  rw[qS,qc,qc];exact⟨fun h=>(m12 i h).1,m21 i⟩
 have hops:∀i o,ops[i]?=some o→(o.guard=none∧aj o.op=none∧(E1.contains i=false→bN o.op=true))∧(D.contains i=true→∃e∈E1,i=e∨bef (aM [] ops.toList) e i=true):=fun i o ho=>by
  have hil:=(Array.getElem?_eq_some_iff.1 ho).1;have:=List.all_eq_true.1 t7 i (by simpa using hil);rw[ho]at this;simp only[oP,pW,Option.isNone_iff_eq_none,pZ,List.any_eq_true,beq_iff_eq]at this;obtain⟨⟨g1,g2,g3⟩,g4⟩:=this;exact⟨⟨g1,g2,fun hE=>by rcases g3 with g3 | g3;rw[hE]at g3;cases g3;exact g3⟩,fun hD=>by rcases g4 with g4 | g4;rw[hD]at g4;cases g4;exact g4⟩
 obtain⟨vs1,vs2,g1,g2,a1,a2,a3,a4,a5,a6,a7,a8,a9⟩:=obl2_ok (C:=aL P) rfl t2.symm hmem (fun i o ho=>(hops i o ho).1) ops.toList 0 fr fr (by simp) hob
 let val:Bool→Nat→V:=fun b i=>((cond b vs1 vs2)[i]?).getD .undef
 have hv1:∀k,k<vs1.length→vs1[k]?=some (val true (0+k)):=fun k hk=>by simp[val,hk]
 have hv2:∀k,k<vs2.length→vs2[k]?=some (val false (0+k)):=fun k hk=>by simp[val,hk]
 have hc1:=obl_at (fr0:=fr) (val:=val true) ops.toList 0 vs1 (by simp) hv1 a3;have hc2:=obl_at (fr0:=fr) (val:=val false) ops.toList 0 vs2 (by simp) hv2 a4;have hg1:=a5 (val true) fr hv1 rfl;have hg2:=a6 (val false) fr hv2 rfl;refine wp_region_any hm ?_;obtain⟨d1,d2⟩:=fL hg (w:={ s.w with drawn:=s.w.drawn+1 }) rfl rfl rfl (oJ _) (fun _ _=>rfl)
 have hget:∀j,(qq ops.size false).getD j false=false:=fun j=>by
  rw[qA,qx];split<;>rfl
 have hnow:ah ops fr (val true) (fun i=>(qq ops.size false).getD i false)=fr:=by
  apply pT;intro t;rw[cB];exact cJ (i:=0) (fun j hj=>absurd hj (by omega)) (fun j _ _=>hget j) ops.size (qV _)
 refine drawJ_sound hT hz0 (s0:=s) (E:=fun b=>cond b E1 E2) (val:=val) (Hs:=fun b c=>((s.H::cond b hs1 hs2)[c]?).getD []) t1 ?_ ?_ ?_ ?_ ?_ ?_ ops.size _ (s.at _) a true 0 (by simp) (fun j o _ hj=>by simp only[hget]at hj;cases hj) ?_ (qV _) (fun k e _=>by rw[hget];simp) d1 d2 rfl (by rw[hnow];exact hf.step d2) hd
 ·intro j e he
  cases j with
  | true=>exact(m12 e he).2
  | false=>exact(m12 e (m21 e he)).2
 ·intro j
  cases j with
  | true=>exact t3
  | false=>exact t4
 ·intro j j' e he
  cases j<;>cases j'<;>first | exact he | exact(m12 e he).1 | exact m21 e he
 ·intro j c i hi hbef
  have hcl:c<(cond j E1 E2).length:=by
   have:=List.length_pos_of_mem hi;rw[pk]at this;omega
  have hlen:(cond j E1 E2).length=E1.length:=by cases j;exact t2.symm;rfl
  have hpair:(cond j E1 E2,cond j E2 E1)∈[(E1,E2),(E2,E1)]:=by cases j<;>simp
  have q:=List.all_eq_true.1 (List.all_eq_true.1 (List.all_eq_true.1 t8 _ hpair) c (by simp;omega)) i hi;simp only[pW,pZ,oP,beq_iff_eq]at q
  rcases q with q | q | ⟨rfl,q⟩
  ·exfalso;rw[rS]at q;refine q (List.all_eq_true.2 fun e he=>?_);by_cases hei:e=i
   ·simp[hei]
   ·rw[hbef e he hei];simp
  ·exact⟨j,rfl,rfl,q,rfl,fun _ _=>rfl⟩
  ·refine⟨!j,?_,rfl,?_,?_,fun k hk=>?_⟩
   ·cases j;exact t2;exact t2.symm
   ·cases j<;>exact q
   ·cases j<;>rfl
   ·have hind:∀e∈E1,k≠e∧bef (aM [] ops.toList) e k=false:=fun e he=>hk e (by
     cases j with
     | true=>simpa using he
     | false=>simpa using(m12 e he).1)
    by_cases hkl:k<ops.size
    ·have ho:ops[k]?=some ops[k]:=by simp[hkl]
     have hD:D.contains k=false:=by
      cases hDk:D.contains k with
      | false=>rfl
      | true =>
       obtain⟨e,he,hx⟩:=(hops k _ ho).2 hDk
       rcases hx with hx | hx
       ·exact absurd hx (hind e he).1
       ·rw[(hind e he).2]at hx;cases hx
     have hE:E1.contains k=false:=by
      rw[rS,ne_eq,qc]
      exact fun hh=>(hind k hh).1 rfl
     have:=a7 k (by simpa using hkl) (by rw[pI];exact hD) (by rw[pI];exact hE);cases j<;>simp only[val,cond_true,cond_false,Bool.not_true,Bool.not_false,this]
    ·have e1:vs1[k]?=none:=pK (by rw[a1];simpa using Nat.le_of_not_lt hkl);have e2:vs2[k]?=none:=pK (by rw[a2];simpa using Nat.le_of_not_lt hkl);cases j<;>simp only[val,cond_true,cond_false,Bool.not_true,Bool.not_false,e1,e2]
 ·intro j i o ho
  cases j with
  | true=>exact hc1 i o (qV _) ho
  | false=>exact hc2 i o (qV _) ho
 ·intro j s' a' k1 k2 k3 k4 k5
  cases j with
  | true=>exact⟨g1,s',rfl,k1,k2,by rw[hg1];exact k3,k4,by rw[k5];exact a8⟩
  | false=>exact⟨g2,s',rfl,k1,k2,by rw[hg2];exact k3,k4,by rw[k5];show Q .normal g2 (((s.H::hs2)[E2.length]?).getD []);rw[←t2];exact a9⟩
 ·exact pY (pf _ _) (by simp)
end
attribute [simp] obl2
end
section
section
variable {P:Program} {T:Ty}
theorem frz_okp{s:St}(hg:Good s){k e z m:Nat}{xs:List V}{fz:Bool}(hk:s.H[k]?=some (.buf e z xs fz)){u:Value}(h:Rel s (.buf k 0 m xs.length) u):Rel (s.frz k (.buf e z xs true)) (.lst z false (xs.take m)) u:=by
 have hkl:=aB hk;obtain⟨_,hst,_⟩:=fE hg hk
 cases h with
 | buf _ _ _ _ e2 z2 xs2 fz2 A l c hk2 ht hh =>
  rw[hk]at hk2;cases hk2;obtain⟨hA,rfl,hcap,hm⟩:=hh rfl;obtain⟨vs,g2,g3,g4,g5,g6,g7⟩:=hg.blk k _ hk
  have hlen:(xs.take l).length=l:=by rw[ot];omega
  by_cases hl0:l=0
  ·subst hl0;exact bw z false A c (fun h=>by cases h)
  have hκ:s.κ k≠0:=by omega
  have hA:=hA hκ;subst hA;have hlk:=lvB hk hκ
  have hP:(s.frz k (.buf e z xs true)).Prot (s.φ k):=by
   refine⟨(hg.lt k hlk).1,(hg.lt k hlk).2,fun j hj e'=>?_⟩;have:=hg.inj j k (nE hk hj) hlk e';subst this;exact⟨e,z,xs,by simp only[St.frz];rw[oX hkl]⟩
  have hat:∀i x,(xs.take l)[i]?=some x→xs[i]?=some x:=fun i x hx=>by
   rw[pD]at hx;split at hx
   ·exact hx
   ·cases hx
  have r:Rel (s.frz k (.buf e z xs true)) (.lst z false (xs.take l)) (.slice (some ⟨s.φ k,0*z,none⟩) (xs.take l).length c):=by
   refine .lst z false (xs.take l) _ c (s.φ k) (0*z) (fun i j=>(s.w.cell? ⟨s.φ k,0*z+i*z+j,none⟩).getD Go.undef) (by omega) (by simp) (fun _=>⟨rfl,hP⟩) (fun x hx=>g6 x (pQ hx)) (fun i x j d hx hd=>?_) (fun i x j d hx hd=>?_)
   ·obtain⟨_,_,h3⟩:=eN hg hk (hat i x hx);obtain⟨u,hu,_⟩:=h3 j d hd;show s.w.cell? _=_;rw[pz,pI,hu];rfl
   ·obtain⟨_,_,h3⟩:=eN hg hk (hat i x hx);obtain⟨u,hu,hr⟩:=h3 j d hd;rw[pz,pI,hu];exact hr.step hst
  rw[hlen]at r;exact r
theorem wcall_frz{f:FuncId}{args:List V}{H G:List B}{k e z m n:Nat}{xs:List V}{fz:Bool}(h:aU P f args H fun r H'=>r = .buf k 0 m n∧H'=G)(hk:G[k]?=some (.buf e z xs fz))(hn:xs.length=n):
  aL P (.fn f []) args H fun r H'=>r = .lst z false (xs.take m)∧H'=G.set k (.buf e z xs true):=by
 simp only[aL,oU];refine⟨h.1,fun s vals hA hg hsz hrel=>(h.2 s vals hA hg hsz hrel).mono fun e' w' ⟨u,s',r,a1,a2,a3,a4,a5,a6,a7⟩=>?_⟩;subst a6;subst hn;rw[←a7]at hk;obtain⟨p1,p2,_⟩:=fE a3 hk;exact⟨u,s'.frz k (.buf e z xs true),_,a1,a2,p1,a4.trans p2,frz_okp a3 hk a5,rfl,by rw[←a7];rfl⟩
end
end
end
end Go.AM
namespace Go.Proofs.YtdnhplencamncaaGreatDoor
section
open Go Go.AM
theorem W_frzB{P:Program}(k j:Nat){k0 e0 e z:Nat}{xs ys:List V}{fz:Bool}{c:Code}{Q:Exit→List V→List B→Prop}{fr:List V}{H:List B}(hne:k0≠k)(hk:H[k]?=some (.buf e z ys fz))(hk0:H[k0]?=some (.buf e0 1 xs false))(hj:xs[j]?=some (.buf k 0 ys.length ys.length))
  (h:W P c Q fr ((H.set k (.buf e z ys true)).set k0 (.buf e0 1 (xs.set j (.lst z false ys)) false))):W P c Q fr H:=by
 intro s a hA hg hf hd;obtain⟨rfl,hZ⟩:=hA;obtain⟨p1,p2,_⟩:=fE hg hk;generalize hs1:s.frz k (.buf e z ys true)=s1 at p1 p2
 have hk1:s1.H[k0]?=some (.buf e0 1 xs false):=by rw[←hs1];simp only[St.frz];rw[oQ (Ne.symm hne)];exact hk0
 have hr1:∀x y u,Rel s x u→(y=x∨(x = .buf k 0 ys.length ys.length∧y = .lst z false ys))→Rel s1 y u:=fun x y u h1 h2=>by subst hs1;exact gA hg hk h1 h2
 have hw1:s1.w=s.w:=by rw[←hs1];rfl
 have hφ:s1.φ k0=s.φ k0:=by rw[←hs1];rfl
 have hκ:s1.κ k0=s.κ k0:=by rw[←hs1];rfl
 obtain⟨vs,g2,g3,g4,g5,g6,g7⟩:=hg.blk k0 _ hk0
 have hκ0:s1.κ k0≠0:=by have:=aB hj;omega
 have hlv:=lvB hk1 hκ0;have hst:=bI (w:=s1.w) (bl':=.buf e0 1 (xs.set j (.lst z false ys)) false) p1 hk1 hlv (by simp[B.alike]) rfl rfl rfl (oJ _) (fun _ _ _=>rfl)
 have hat:∀(i:Nat) y,(xs.set j (.lst z false ys))[i]?=some y→∃x,xs[i]?=some x∧(y=x∨(x = .buf k 0 ys.length ys.length∧y = .lst z false ys)):=fun i y hy=>by
  by_cases e1:j=i
  ·subst e1;rw[oX (aB hj)]at hy;exact⟨_,hj,.inr ⟨rfl,(Option.some.inj hy).symm⟩⟩
  ·rw[oQ e1]at hy;exact⟨y,hy,.inl rfl⟩
 have hgd:AM.Good (s1.setB s1.w k0 (.buf e0 1 (xs.set j (.lst z false ys)) false)):=by
  refine bQ p1 hk1 hlv (by simp[B.alike]) rfl rfl rfl (oJ _) (fun _ _ _=>rfl) (fun hst=>?_);refine⟨vs,fun _=>by show s1.w.heap[s1.φ k0]?=_;rw[hw1,hφ];exact g2 (by rw[←hκ];exact hκ0),?_,?_,?_,fun y hy=>?_,fun i y j' d u hy hd hu=>?_⟩
  ·show vs.size=s1.κ k0*1;rw[hκ];exact g3
  ·show _≤s1.κ k0;rw[hκ,pN];exact g4
  ·show s1.κ k0≤_;rw[hκ];exact g5
  ·obtain⟨i,hi⟩:=List.mem_iff_getElem?.1 hy;obtain⟨x,hx,h9⟩:=hat i y hi
   rcases h9 with h9 | ⟨_,h9⟩
   ·rw[h9];exact g6 x (oH hx)
   ·rw[h9];exact⟨rfl,fun c hc=>by simp[V.cells]at hc;subst hc;rfl⟩
  ·obtain⟨x,hx,h9⟩:=hat i y hy
   rcases h9 with h9 | ⟨h8,h9⟩
   ·subst h9;exact(hr1 d d u (g7 i y j' d u hx hd hu) (.inl rfl)).step hst
   ·subst h9;subst h8
    have hj0:j'=0:=by have:=aB hd;simp[V.cells]at this;exact this
    subst hj0;simp[V.cells]at hd;subst hd;exact(hr1 _ _ u (g7 i _ 0 _ u hx rfl hu) (.inr ⟨rfl,rfl⟩)).step hst
 have hH:(s1.setB s1.w k0 (.buf e0 1 (xs.set j (.lst z false ys)) false)).H=(s.H.set k (.buf e z ys true)).set k0 (.buf e0 1 (xs.set j (.lst z false ys)) false):=by
  rw[←hs1];rfl
 have:=h (s1.setB s1.w k0 (.buf e0 1 (xs.set j (.lst z false ys)) false)) a ⟨hH,(hZ.step p2).step hst⟩ hgd ⟨by rw[hf.len],fun i v u hv hu=>(hr1 v v u (hf.rel i v u hv hu) (.inl rfl)).step hst⟩ hd;have e1:(s1.setB s1.w k0 (.buf e0 1 (xs.set j (.lst z false ys)) false)).w=s.w:=hw1;rw[e1]at this
 exact wp_mono this fun _ _ _ hl=>bO (p2.trans hst) hl
end
end Go.Proofs.YtdnhplencamncaaGreatDoor
namespace Go.AM
section
open Go
section
section
variable {P:Program} {T:Ty}
theorem conH_of_conOX{f:FuncId}{args args':List V}{K:Nat→Nat→List V→Prop}{H:List B}(h:dr P f args' K)(hl:args.length=args'.length)(he:∀(i:Nat) a a',args[i]?=some a→args'[i]?=some a'→Exp H a a')(hs:∀e z xs,K e z xs→∀x∈xs,∀c∈x.cells,Scalar c):
  aU P f args H fun r H'=>∃e z xs,r = .buf H.length 0 xs.length xs.length∧H'=H++[.buf e z xs false]∧(∀x∈xs,Pure x)∧K e z xs:=by
 refine⟨h.1,fun s vals hH hg hsz hrel=>?_⟩;obtain⟨rfl,hZ⟩:=hH
 have hFl:∀b,hold s (fun _=>True) b→b<s.w.heap.size:=by
  rintro b (h | ⟨k,hk,rfl,_⟩)
  ·exact hg.fl b h
  ·exact(hg.lt k hk).1
 refine(h.2 (hold s fun _=>True) s.w vals (hZ.hold _) hFl (by omega) (fun i a' u ha' hu=>?_)).mono fun e w' ⟨u,e',z,xs,A,g0,c,a1,a2,aA,a3,a4,a5,a6,a7⟩=>?_
 ·have hi:i<args.length:=by have:=aB ha';omega
  have ha:args[i]?=some args[i]:=oG hi;exact(hrel i _ u ha hu).exp hg (he i _ a' ha ha') (fun _ _ _ _ _=>trivial)
 ·subst a2;by_cases hc0:c=0
  ·subst hc0;obtain⟨_,_,_,g4,_⟩:=a5.blk 0 _ rfl;obtain rfl:xs=[]:=pX (by simpa using g4);obtain⟨p1,p2⟩:=lD hg 0 e' z false a6.os a6.tape a6.output a6.size a6.block;refine⟨_,s.push w' 0 0 (.buf e' z [] false),.buf s.H.length 0 0 0,a1,rfl,p1,p2,?_,e',z,[],rfl,rfl,a3,a7⟩;refine .buf s.H.length 0 0 0 e' z [] false _ _ _ (by simp[St.push]) (oJ _) (fun _=>?_);simp only[St.push,aR];exact⟨fun h=>absurd rfl h,by simp,by simp,by simp⟩
  have a4:=a4 hc0;have hA:=aA hc0;subst hA;have hgl:g0<w'.heap.size:=(a5.lt 0 (lvB (e:=e') (z:=z) (xs:=xs) (fz:=false) rfl hc0)).1;obtain⟨g,hgg⟩:∃g,g=g0:=⟨g0,rfl⟩;subst hgg;have hst:=cq (bl:=.buf e' z xs false) (c:=c) hg a6.os a6.tape a6.output a6.size a6.block a4;refine⟨_,s.push w' g c (.buf e' z xs false),.buf s.H.length 0 xs.length xs.length,a1,rfl,dQ hg a6.os a6.tape a6.output a6.size a6.block a4 hgl (fun hst=>?_),hst,?_,e',z,xs,rfl,rfl,a3,a7⟩
  ·obtain⟨vs,g2,g3,g4,g5,g6,g7⟩:=a5.blk 0 _ rfl;exact⟨vs,fun _=>by simp only[St.push,aR];exact g2 hc0,by simp only[St.push,aR];exact g3,by simp only[St.push,aR];exact g4,by simp only[St.push,aR];exact g5,g6,fun i x j d u hx hd hu=>(g7 i x j d u hx hd hu).scalar (hs _ _ _ a7 x (oH hx) d (oH hd))⟩
  ·refine .buf s.H.length 0 xs.length xs.length e' z xs false _ _ _ (by simp[St.push]) (oJ _) (fun _=>?_);simp only[St.push,aR];exact⟨fun _=>by simp,trivial,by simp,by simp⟩
theorem callOX{f:FuncId}{args args':List V}{H:List B}{K:Nat→Nat→List V→Prop}(h:dr P f args' K)(hl:args.length=args'.length)(he:∀(i:Nat) a a',args[i]?=some a→args'[i]?=some a'→Exp H a a')(hs:∀e z xs,K e z xs→∀x∈xs,∀c∈x.cells,Scalar c):
  aL P (.fn f []) args H fun r H'=>∃e z xs,r = .buf H.length 0 xs.length xs.length∧H'=H++[.buf e z xs false]∧(∀x∈xs,Pure x)∧K e z xs:=by
 simp only[aL,oU];exact conH_of_conOX h hl he hs
end
end
section
section
variable {P:Program} {T:Ty}
theorem frzC_ok{s:St}(hg:Good s)(k k0:Nat){sc:List Nat}{e z:Nat}{xs cs:List V}{fz:Bool}(hk:s.H[k]?=some (.buf e z xs fz))(hk0:s.H[k0]?=some (.cells cs))(hc:dM (.buf k 0 xs.length xs.length) (.lst z false xs) cs (bi (.lst z false xs) sc 0 cs)):
  ∃s',s'.w=s.w∧Good s'∧Step s s'∧s'.H=(s.H.set k (.buf e z xs true)).set k0 (.cells (bi (.lst z false xs) sc 0 cs)):=by
 obtain⟨p1,p2,_⟩:=fE hg hk;have hlc:=hc.len
 have hne:k0≠k:=fun h=>by subst h;rw[hk]at hk0;cases hk0
 generalize hs1:s.frz k (.buf e z xs true)=s1 at p1 p2
 have hk1:s1.H[k0]?=some (.cells cs):=by rw[←hs1];simp only[St.frz];rw[oQ (Ne.symm hne)];exact hk0
 have hr1:∀x y u,Rel s x u→(y=x∨(x = .buf k 0 xs.length xs.length∧y = .lst z false xs))→Rel s1 y u:=fun x y u h1 h2=>by subst hs1;exact gA hg hk h1 h2
 have hw1:s1.w=s.w:=by rw[←hs1];rfl
 have hst:=bI (w:=s1.w) (bl':=.cells (bi (.lst z false xs) sc 0 cs)) p1 hk1 (lvC hk1) trivial rfl rfl rfl (oJ _) (fun _ _ _=>rfl)
 have hgd:Good (s1.setB s1.w k0 (.cells (bi (.lst z false xs) sc 0 cs))):=by
  refine bQ p1 hk1 (lvC hk1) trivial rfl rfl rfl (oJ _) (fun _ _ _=>rfl) (fun hst=>?_);obtain⟨h1,vs,t,h2,h3,h4⟩:=hg.blk k0 _ hk0
  have hφ:s1.φ k0=s.φ k0:=by rw[←hs1];rfl
  refine⟨fun d hd=>?_,vs,t,by show s1.w.heap[s1.φ k0]?=_;rw[hw1,hφ];exact h2,by omega,fun i d u hd hu=>?_⟩
  ·obtain⟨i,hi⟩:=List.mem_iff_getElem?.1 hd;have hx:cs[i]?=some (cs[i]'(by have:=aB hi;omega)):=oG _
   rcases hc.at_ i _ d hx hi with h9 | ⟨_,h9⟩
   ·rw[h9];exact h1 _ (oI _)
   ·rw[h9];rfl
  ·have hx:cs[i]?=some (cs[i]'(by have:=aB hd;omega)):=oG _;exact(hr1 _ d u (h4 i _ u hx hu) (hc.at_ i _ d hx hd)).step hst
 have hH:(s1.setB s1.w k0 (.cells (bi (.lst z false xs) sc 0 cs))).H=(s.H.set k (.buf e z xs true)).set k0 (.cells (bi (.lst z false xs) sc 0 cs)):=by
  rw[←hs1];rfl
 exact⟨s1.setB s1.w k0 (.cells (bi (.lst z false xs) sc 0 cs)),hw1,hgd,p2.trans hst,hH⟩
theorem conH_frzC{f:FuncId}{args:List V}{H G:List B}{r0:V}(k k0:Nat)(sc:List Nat){e z:Nat}{xs cs:List V}{fz:Bool}(h:aU P f args H fun r H'=>r=r0∧H'=G)(hk:G[k]?=some (.buf e z xs fz))(hk0:G[k0]?=some (.cells cs))(hc:dM (.buf k 0 xs.length xs.length) (.lst z false xs) cs (bi (.lst z false xs) sc 0 cs)):
  aU P f args H fun r H'=>r=r0∧H'=(G.set k (.buf e z xs true)).set k0 (.cells (bi (.lst z false xs) sc 0 cs)):=by
 refine⟨h.1,fun s vals hA hg hsz hrel=>(h.2 s vals hA hg hsz hrel).mono fun e' w' ⟨u,s',r,a1,a2,a3,a4,a5,a6,a7⟩=>?_⟩;rw[←a7]at hk hk0;obtain⟨s2,q1,q2,q3,q4⟩:=frzC_ok a3 k k0 hk hk0 hc;exact⟨u,s2,r,a1,q1.trans a2,q2,a4.trans q3,a5.step q3,a6,by rw[q4,a7]⟩
end
end
section
inductive Ren (g:Nat→Nat) (n:Nat):V→V→Prop
 | pure (v:V) (h:Pure v):Ren g n v v
 | ptr (i o:Nat) (h:i<n):Ren g n (.ptr i o) (.ptr (g i) o)
 | buf (i o l t:Nat) (h:i<n):Ren g n (.buf i o l t) (.buf (g i) o l t)
 | map (i:Nat) (h:i<n):Ren g n (.map i) (.map (g i))
inductive RenB (g:Nat→Nat) (n:Nat):B→B→Prop
 | cells (cs ds:List V) (hl:cs.length=ds.length) (h1:∀c∈ds,c.one=true) (h:∀(i:Nat) c d,cs[i]?=some c→ds[i]?=some d→Ren g n c d):RenB g n (.cells cs) (.cells ds)
 | buf (e z:Nat) (xs:List V) (fz:Bool) (h:∀x∈xs,Pure x):RenB g n (.buf e z xs fz) (.buf e z xs fz)
 | map (kk:KK) (es:List (V×V)) (h:∀p∈es,Pure p.1∧Pure p.2):RenB g n (.map kk es) (.map kk es)
theorem Ren.one{g:Nat→Nat}{n:Nat}{v w:V}(h:Ren g n v w)(h1:w.one=true):v.one=true:=by
 cases h with
 | pure=>exact h1
 | ptr=>rfl
 | buf=>rfl
 | map=>rfl
section
variable {P:Program} {g:Nat→Nat} {n:Nat}
structure Emb (g:Nat→Nat) (n:Nat) (s0 s:St):Prop where
 blk:∀i b,i<n→s0.H[i]?=some b→∃b',s.H[g i]?=some b'∧RenB g n b b'
 len:s0.H.length=n
 φ:∀i,i<n→s.φ (g i)=s0.φ i
 κ:∀i,i<n→s.κ (g i)=s0.κ i
 w:s.w=s0.w
theorem Emb.at_{s0 s:St}(h:Emb g n s0 s){i:Nat}(hi:i<n):∃b b',s0.H[i]?=some b∧s.H[g i]?=some b'∧RenB g n b b':=by
 have hb:s0.H[i]?=some (s0.H[i]'(by rw[h.len];exact hi)):=oG _;obtain⟨b',h1,h2⟩:=h.blk i _ hi hb;exact⟨_,b',hb,h1,h2⟩
theorem Emb.buf0{s0 s:St}(h:Emb g n s0 s){i e z:Nat}{xs:List V}{fz:Bool}(hi:i<n)(hk:s0.H[i]?=some (.buf e z xs fz)):s.H[g i]?=some (.buf e z xs fz):=by
 obtain⟨b',h1,h2⟩:=h.blk i _ hi hk;cases h2;exact h1
theorem Emb.buf1{s0 s:St}(h:Emb g n s0 s){i e z:Nat}{xs:List V}{fz:Bool}(hi:i<n)(hk:s.H[g i]?=some (.buf e z xs fz)):s0.H[i]?=some (.buf e z xs fz):=by
 obtain⟨b,b',h1,h2,h3⟩:=h.at_ hi;rw[hk]at h2;cases h2;cases h3;exact h1
theorem Emb.lv0{s0 s:St}(h:Emb g n s0 s){i:Nat}(hl:Lv s0 i):i<n∧Lv s (g i):=by
 have hi:i<n:=by have:=hl.1;rw[h.len]at this;exact this
 obtain⟨b,b',h1,h2,h3⟩:=h.at_ hi;exact⟨hi,aB h2,fun e z xs fz hb=>by rw[h.κ i hi];exact hl.2 e z xs fz (h.buf1 hi hb)⟩
theorem Emb.lv1{s0 s:St}(h:Emb g n s0 s){i:Nat}(hi:i<n)(hl:Lv s (g i)):Lv s0 i :=
 ⟨by rw[h.len];exact hi,fun e z xs fz hb=>by rw[←h.κ i hi];exact hl.2 e z xs fz (h.buf0 hi hb)⟩
theorem Emb.down{s0 s:St}(h:Emb g n s0 s)(hw:∀b,s.Prot b→s0.Prot b∧s0.w.heap[b]?=s.w.heap[b]?){v v':V}{u:Value}(hr:Ren g n v v')(hu:Rel s v' u):Rel s0 v u:=by
 cases hr with
 | pure _ hp=>exact hu.pure_ hp hw
 | ptr i o hi =>
  cases hu with
  | ptr _ _ cs hk =>
   obtain⟨b,b',h1,h2,h3⟩:=h.at_ hi;rw[hk]at h2;cases h2
   cases h3 with
   | cells cs0 _ _ _ _ =>
    rw[h.φ i hi];exact .ptr i o cs0 h1
 | buf i o l t hi =>
  cases hu with
  | buf _ _ _ _ e z xs fz A l' c hk ht hh =>
   rw[h.φ i hi,h.κ i hi]at hh;exact .buf i o l t e z xs fz A l' c (h.buf1 hi hk) ht hh
 | map i hi =>
  cases hu with
  | map _ kk es hk =>
   obtain⟨b,b',h1,h2,h3⟩:=h.at_ hi;rw[hk]at h2;cases h2
   cases h3 with
   | map _ _ _ =>
    rw[h.φ i hi];exact .map i kk es h1
theorem Emb.up{s0 s:St}(h:Emb g n s0 s)(hw:∀b,s0.Prot b→s.Prot b∧s.w.heap[b]?=s0.w.heap[b]?){v v':V}{u:Value}(hr:Ren g n v v')(hu:Rel s0 v u):Rel s v' u:=by
 cases hr with
 | pure _ hp=>exact hu.pure_ hp hw
 | ptr i o hi =>
  cases hu with
  | ptr _ _ cs hk =>
   obtain⟨b,b',h1,h2,h3⟩:=h.at_ hi;rw[hk]at h1;cases h1
   cases h3 with
   | cells _ ds _ _ _ =>
    rw[←h.φ i hi];exact .ptr (g i) o ds h2
 | buf i o l t hi =>
  cases hu with
  | buf _ _ _ _ e z xs fz A l' c hk ht hh =>
   rw[←h.φ i hi,←h.κ i hi]at hh;exact .buf (g i) o l t e z xs fz A l' c (h.buf0 hi hk) ht hh
 | map i hi =>
  cases hu with
  | map _ kk es hk =>
   obtain⟨b,b',h1,h2,h3⟩:=h.at_ hi;rw[hk]at h1;cases h1
   cases h3 with
   | map _ _ _ =>
    rw[←h.φ i hi];exact .map (g i) kk es h2
inductive RenT (g:Nat→Nat) (n:Nat):V→V→Prop
 | one (a b:V) (h:Ren g n a b):RenT g n a b
 | tup (xa bs:List V) (hl:xa.length=bs.length) (h:∀(i:Nat) a b,xa[i]?=some a→bs[i]?=some b→Ren g n a b):RenT g n (.tup xa) (.tup bs)
theorem Emb.upT{s0 s:St}(h:Emb g n s0 s)(hw:∀b,s0.Prot b→s.Prot b∧s.w.heap[b]?=s0.w.heap[b]?){v v':V}{u:Value}(hr:RenT g n v v')(hu:Rel s0 v u):Rel s v' u:=by
 cases hr with
 | one _ _ h1=>exact h.up hw h1 hu
 | tup xa bs hl h1 =>
  cases hu with
  | tup _ us hul hh =>
   refine .tup bs us (by omega) (fun i b u hb hu=>?_);have hi:=aB hb;have ha:xa[i]?=some (xa[i]'(by omega)):=oG _;exact h.up hw (h1 i _ b ha hb) (hh i _ u ha hu)
open Classical in
theorem ng{f:FuncId}{args0 args:List V}{H0 H H1 H2:List B}{r0 r1:V}(n m:Nat)(g:Nat→Nat)(h:aU P f args0 H0 fun r H'=>r=r0∧H'=H1)(hn:H0.length=n)(hm:H1.length=m)(hnm:n≤m)
  (hinj:∀i j,i<m→j<m→g i=g j→i=j) (hgo:∀i,i<n→g i<H.length) (hgn:∀i,n≤i→i<m→g i=H.length+(i-n))
  (hB:∀i b,H0[i]?=some b→∃b',H[g i]?=some b'∧RenB g n b b') (hB1:∀i b,H1[i]?=some b→∃b',H2[g i]?=some b'∧RenB g m b b')
  (h2l:H2.length=H.length+(m-n)) (h2o:∀j,j<H.length→(∀i,i<n→g i≠j)→H2[j]?=H[j]?)
  (hal:args0.length=args.length) (ha:∀(i:Nat) a b,args0[i]?=some a→args[i]?=some b→Ren g n a b) (hr:RenT g m r0 r1):aU P f args H fun r H'=>r=r1∧H'=H2:=by
 refine⟨h.1,fun s vals hH hg hsz hrel=>?_⟩;obtain⟨rfl,hz⟩:=hH
 let op:Nat→Prop:=fun j=>∃i,i<n∧g i=j
 obtain⟨s0,hs0⟩:∃s0:St,s0=⟨hold s op,s.w,fun i=>s.φ (g i),fun i=>s.κ (g i),H0⟩:=⟨_,rfl⟩
 have hw0:s0.w=s.w:=by rw[hs0]
 have hF0:s0.F=hold s op:=by rw[hs0]
 have hHH0:s0.H=H0:=by rw[hs0]
 have e0:Emb g n s0 s:=⟨fun i b hi hb=>hB i b (by rw[←hHH0];exact hb),by rw[hHH0];exact hn,fun i _=>by rw[hs0],fun i _=>by rw[hs0],hw0.symm⟩
 have hold_no:∀b,s.Prot b→¬hold s op b:=fun b hb=>by
  rintro(hf | ⟨k,hk,e,_,hno⟩)
  ·exact hb.2.1 hf
  ·obtain⟨e',z',xs',he'⟩:=hb.2.2 k hk e;exact hno e' z' xs' he'
 have hwd:∀b,s.Prot b→s0.Prot b∧s0.w.heap[b]?=s.w.heap[b]?:=fun b hb=>by
  refine⟨⟨by rw[hw0];exact hb.1,by rw[hF0];exact hold_no b hb,fun i hi e=>?_⟩,by rw[hw0]⟩;obtain⟨hin,hl⟩:=e0.lv0 hi;obtain⟨e',z',xs',he'⟩:=hb.2.2 (g i) hl ((e0.φ i hin).trans e);exact⟨e',z',xs',e0.buf1 hin he'⟩
 have g0:Good s0:=by
  refine⟨fun b hb=>?_,fun i hi=>?_,fun i j hi hj e=>?_,fun i b hb=>?_⟩
  ·rw[hF0]at hb;rw[hw0]
   rcases hb with hb | ⟨k,hk,e,_⟩
   ·exact hg.fl b hb
   ·rw[←e];exact(hg.lt k hk).1
  ·obtain⟨hin,hl⟩:=e0.lv0 hi;rw[←e0.φ i hin,hw0,hF0];refine⟨(hg.lt _ hl).1,?_⟩;rintro(hf | ⟨k,hk,e,hno,_⟩)
   ·exact(hg.lt _ hl).2 hf
   ·have:=hg.inj k (g i) hk hl e;exact hno ⟨i,hin,this.symm⟩
  ·obtain⟨hin,hl⟩:=e0.lv0 hi;obtain⟨hjn,hl'⟩:=e0.lv0 hj;rw[←e0.φ i hin,←e0.φ j hjn]at e;exact hinj i j (by omega) (by omega) (hg.inj _ _ hl hl' e)
  ·have hin:i<n:=by have:=aB hb;rw[hHH0,hn]at this;exact this
   obtain⟨b',h1,h2⟩:=e0.blk i b hin hb;have hbr:=hg.blk _ _ h1
   cases h2 with
   | cells cs ds hl h1' hh =>
    obtain⟨q1,vs,t,q2,q3,q4⟩:=hbr;refine⟨fun c hc=>?_,vs,t,by rw[hw0,←e0.φ i hin];exact q2,by omega,fun j c u hc hu=>?_⟩
    ·obtain⟨j,hj⟩:=List.mem_iff_getElem?.1 hc;have hjl:=aB hj;have hd:ds[j]?=some (ds[j]'(by omega)):=oG _;exact(hh j c _ hj hd).one (h1' _ (oH hd))
    ·have hjl:=aB hc;have hd:ds[j]?=some (ds[j]'(by omega)):=oG _;exact e0.down hwd (hh j c _ hc hd) (q4 j _ u hd hu)
   | buf e z xs fz hp =>
    obtain⟨vs,q2,q3,q4,q5,q6,q7⟩:=hbr;rw[e0.κ i hin,e0.φ i hin]at *;refine⟨vs,fun hz=>by rw[hw0];exact q2 hz,q3,q4,q5,q6,fun j x t c u hx hc hu=>?_⟩;exact e0.down hwd (.pure c ((hp x (oH hx)).cells c (oH hc))) (q7 j x t c u hx hc hu)
   | map kk es hp =>
    obtain⟨q1,ms,cl,q2,q3,q4⟩:=hbr;refine⟨q1,ms,cl,by rw[hw0,←e0.φ i hin];exact q2,q3,fun j p mm hj hmm=>?_⟩;obtain⟨q5,q6⟩:=q4 j p mm hj hmm;have hpp:=hp p (oH hj);exact⟨e0.down hwd (.pure _ hpp.1) q5,e0.down hwd (.pure _ hpp.2) q6⟩
 have hz0:GOk P s0:=hz.of fun b hb=>⟨(hwd b hb).1,by rw[hw0]⟩
 have hrel0:∀(i:Nat) a u,args0[i]?=some a→vals[i]?=some u→Rel s0 a u:=fun i a u hai hu=>by
  have hi:=aB hai;have hb:args[i]?=some (args[i]'(by omega)):=oG _;exact e0.down hwd (ha i a _ hai hb) (hrel i _ u hb hu)
 rw[←hw0]
 refine(h.2 s0 vals ⟨hHH0,hz0⟩ g0 (by omega) hrel0).mono fun e w' ⟨u,s1,r,a1,a2,g1,st,ru,hrr,hH1⟩=>?_
 subst a2;subst hrr
 have hch:∀i,i<m→∀hx:∃q,q<m∧g q=g i,hx.choose=i:=fun i hi hx=>hinj _ _ hx.choose_spec.1 hi hx.choose_spec.2
 obtain⟨s2,hs2⟩:∃s2:St,s2=⟨s.F,s1.w,fun j=>if hx:∃i,i<m∧g i=j then s1.φ hx.choose else s.φ j,fun j=>if hx:∃i,i<m∧g i=j then s1.κ hx.choose else s.κ j,H2⟩:=⟨_,rfl⟩
 have hw2:s2.w=s1.w:=by rw[hs2]
 have hHH2:s2.H=H2:=by rw[hs2]
 have hφi:∀i,i<m→s2.φ (g i)=s1.φ i:=fun i hi=>by
  rw[hs2];show(if hx:∃q,q<m∧g q=g i then s1.φ hx.choose else s.φ (g i))=_;rw[dif_pos ⟨i,hi,rfl⟩,hch i hi]
 have hκi:∀i,i<m→s2.κ (g i)=s1.κ i:=fun i hi=>by
  rw[hs2];show(if hx:∃q,q<m∧g q=g i then s1.κ hx.choose else s.κ (g i))=_;rw[dif_pos ⟨i,hi,rfl⟩,hch i hi]
 have hφo:∀j,(¬∃i,i<m∧g i=j)→s2.φ j=s.φ j:=fun j hj=>by
  rw[hs2];show(if hx:∃q,q<m∧g q=j then s1.φ hx.choose else s.φ j)=_;rw[dif_neg hj]
 have hκo:∀j,(¬∃i,i<m∧g i=j)→s2.κ j=s.κ j:=fun j hj=>by
  rw[hs2];show(if hx:∃q,q<m∧g q=j then s1.κ hx.choose else s.κ j)=_;rw[dif_neg hj]
 have e1:Emb g m s1 s2:=⟨fun i b hi hb=>by rw[hHH2];exact hB1 i b (by rw[←hH1];exact hb),by rw[hH1];exact hm,hφi,hκi,hw2⟩
 have hout:∀j,j<H2.length→(¬∃i,i<m∧g i=j)→j<s.H.length∧H2[j]?=s.H[j]?:=fun j hj hno=>by
  have hjl:j<s.H.length:=by
   by_cases hjl:j<s.H.length
   ·exact hjl
   ·exact absurd ⟨n+(j-s.H.length),by omega,by rw[hgn _ (by omega) (by omega)];omega⟩ hno
  exact⟨hjl,h2o j hjl (fun i hi e=>hno ⟨i,by omega,e⟩)⟩
 have hlvo:∀j,(¬∃i,i<m∧g i=j)→Lv s2 j→Lv s j:=fun j hno hl=>by
  have hj:j<H2.length:=by have:=hl.1;rw[hHH2]at this;exact this
  obtain⟨h1,h2⟩:=hout j hj hno;exact⟨h1,fun e z xs fz hb=>by rw[←hκo j hno];exact hl.2 e z xs fz (by rw[hHH2,h2];exact hb)⟩
 have hsame:∀j,Lv s j→(¬∃i,i<n∧g i=j)→s1.w.heap[s.φ j]?=s.w.heap[s.φ j]?:=fun j hl hno=>by
  have:=st.out (s.φ j) (by rw[hw0];exact(hg.lt j hl).1) (fun i hi e=>by
   obtain⟨hin,hl'⟩:=e0.lv0 hi;rw[←e0.φ i hin]at e
   exact hno ⟨i,hin,hg.inj _ _ hl' hl e⟩)
  rw[hw0]at this;exact this
 have hnm':∀j,(¬∃i,i<m∧g i=j)→¬∃i,i<n∧g i=j:=fun j hno ⟨i,hi,e⟩=>hno ⟨i,by omega,e⟩
 have hwu:∀b,s1.Prot b→s2.Prot b∧s2.w.heap[b]?=s1.w.heap[b]?:=fun b hb=>by
  have hFb:¬hold s op b:=by rw[←hF0,←st.F];exact hb.2.1
  refine⟨⟨by rw[hw2];exact hb.1,by rw[hs2];exact fun hf=>hFb (Or.inl hf),fun j hj e=>?_⟩,by rw[hw2]⟩;by_cases hno:∃i,i<m∧g i=j
  ·obtain⟨i,hi,rfl⟩:=hno;obtain⟨e',z',xs',he'⟩:=hb.2.2 i (e1.lv1 hi hj) ((hφi i hi).symm.trans e);exact⟨e',z',xs',e1.buf0 hi he'⟩
  ·have hl:=hlvo j hno hj;rw[hφo j hno]at e;by_cases hfz:∃e z xs,s.H[j]?=some (.buf e z xs true)
   ·obtain⟨e',z',xs',he'⟩:=hfz
    have hj2:j<H2.length:=by have:=hj.1;rw[hHH2]at this;exact this
    exact⟨e',z',xs',by rw[hHH2,(hout j hj2 hno).2];exact he'⟩
   ·exact absurd (Or.inr ⟨j,hl,e,hnm' j hno,fun e z xs hh=>hfz ⟨e,z,xs,hh⟩⟩) hFb
 have hst:Step s s2:=by
  refine⟨by rw[hs2],by rw[hw2,st.os,hw0],by rw[hw2,st.tape,hw0],by rw[hw2,st.output,hw0],by rw[hw2,←hw0];exact st.size,fun b hb hno=>?_,by rw[hHH2,h2l];omega,fun j hj hl=>?_,fun j bl hj=>?_⟩
  ·have:=st.out b (by rw[hw0];exact hb) (fun i hi e=>by
    obtain⟨hin,hl'⟩:=e0.lv0 hi;rw[←e0.φ i hin]at e
    exact hno _ hl' e)
   rw[hw0]at this;rw[hw2];exact this
  ·have hj2:j<H2.length:=by have:=hl.1;rw[hHH2]at this;exact this
   by_cases hno:∃i,i<m∧g i=j
   ·obtain⟨i,hi,rfl⟩:=hno
    have hni:n≤i:=by
     rcases pS i n with q | q
     ·have:=hgo i q;omega
     ·exact q
    rw[hφi i hi,←hw0];exact st.new i (by rw[hHH0,hn];exact hni) (e1.lv1 hi hl)
   ·have:=(hout j hj2 hno).1;omega
  ·have hjl:=aB hj;by_cases hno:∃i,i<m∧g i=j
   ·obtain⟨i,hi,rfl⟩:=hno
    have hin:i<n:=by
     rcases pS i n with q | q
     ·exact q
     ·have:=hgn i q hi;omega
    obtain⟨b,b',q1,q2,q3⟩:=e0.at_ hin;rw[hj]at q2;cases q2;have hk:=st.keep i b q1
    cases q3 with
    | cells cs ds _ _ _ =>
     obtain⟨p1,cs',p2⟩:=hk;obtain⟨b2,p3,p4⟩:=e1.blk i _ hi p2
     cases p4 with
     | cells _ ds' _ _ _=>exact⟨by rw[hφi i hi,p1,e0.φ i hin],ds',p3⟩
    | map kk es hp =>
     obtain⟨p1,es',p2⟩:=hk;obtain⟨b2,p3,p4⟩:=e1.blk i _ hi p2
     cases p4 with
     | map _ _ _=>exact⟨by rw[hφi i hi,p1,e0.φ i hin],es',p3⟩
    | buf e z xs fz hp =>
     obtain⟨xs',fz',p1,p2,p3,p4,p5,p6⟩:=hk;rw[←e0.φ i hin,←e0.κ i hin,←hφi i hi,←hκi i hi]at *;refine⟨xs',fz',e1.buf0 hi p1,p2,p3,fun hf=>?_,?_,?_⟩
     ·obtain⟨k1,k2,k3⟩:=p4 hf;exact⟨k1,k2,fun hz=>by have:=k3 hz;rw[hw0]at this;rw[hw2];exact this⟩
     ·rw[hw0]at p5;exact p5
     ·rw[hw0]at p6;exact p6
   ·have h2:=h2o j hjl (fun i hi e=>hno ⟨i,by omega,e⟩)
    have hj':s2.H[j]?=some bl:=by rw[hHH2,h2];exact hj
    cases bl with
    | cells cs=>exact⟨hφo j hno,cs,hj'⟩
    | map kk es=>exact⟨hφo j hno,es,hj'⟩
    | buf e z xs fz =>
     refine⟨xs,fz,hj',oJ _,fun _=>⟨hφo j hno,hκo j hno⟩,fun hf=>⟨hf,rfl,fun hz=>?_⟩,.inl (hφo j hno),fun hz=>.inl (by rw[hκo j hno];exact hz)⟩;rw[hw2];exact hsame j (lvB hj hz) (hnm' j hno)
 have hg2:Good s2:=by
  have hold1:∀i,i<m→Lv s1 i→s1.φ i<s.w.heap.size→i<n∧Lv s (g i)∧s1.φ i=s.φ (g i):=fun i hi hl hlt=>by
   have hin:i<n:=by
    rcases pS i n with q | q
    ·exact q
    ·have:=st.new i (by rw[hHH0,hn];exact q) hl;rw[hw0]at this;omega
   obtain⟨b,b',q1,q2,q3⟩:=e0.at_ hin;have hk:=st.keep i b q1
   cases q3 with
   | cells cs ds _ _ _=>exact⟨hin,lvC q2,by rw[hk.1,e0.φ i hin]⟩
   | map kk es _=>exact⟨hin,lvM q2,by rw[hk.1,e0.φ i hin]⟩
   | buf e z xs fz hp =>
    obtain⟨xs',fz',p1,p2,p3,p4,p5,p6⟩:=hk;rw[hw0]at p5 p6
    have hne:s0.κ i≠0:=fun hz=>by
     rcases p6 hz with q | q
     ·exact hl.2 _ _ _ _ p1 q
     ·omega
    rcases p5 with q | q
    ·exact⟨hin,lvB q2 (by rw[e0.κ i hin];exact hne),by rw[q,e0.φ i hin]⟩
    ·omega
  refine⟨fun b hb=>?_,fun j hj=>?_,fun j k hj hk e=>?_,fun j bl hj=>?_⟩
  ·rw[hw2]
   have:s.F b:=by rw[hs2]at hb;exact hb
   exact om (hg.fl b this) (by rw[←hw0];exact st.size)
  ·rw[hw2];by_cases hno:∃i,i<m∧g i=j
   ·obtain⟨i,hi,rfl⟩:=hno;rw[hφi i hi];have:=g1.lt i (e1.lv1 hi hj);refine⟨this.1,fun hf=>this.2 ?_⟩;rw[st.F,hF0]
    have:s.F (s1.φ i):=by rw[hs2]at hf;exact hf
    exact Or.inl this
   ·rw[hφo j hno];have:=hg.lt j (hlvo j hno hj);exact⟨om this.1 (by rw[←hw0];exact st.size),by rw[hs2];exact this.2⟩
  ·have mix:∀i j,i<m→Lv s1 i→(¬∃q,q<m∧g q=j)→Lv s j→s1.φ i≠s.φ j:=fun i j hi hl hno hlj e=>by
    obtain⟨q1,q2,q3⟩:=hold1 i hi hl (by rw[e];exact(hg.lt j hlj).1);rw[q3]at e;exact hno ⟨i,hi,hg.inj _ _ q2 hlj e⟩
   by_cases hnj:∃i,i<m∧g i=j<;>by_cases hnk:∃i,i<m∧g i=k
   ·obtain⟨i,hi,rfl⟩:=hnj;obtain⟨i',hi',rfl⟩:=hnk;rw[hφi i hi,hφi i' hi']at e;rw[g1.inj i i' (e1.lv1 hi hj) (e1.lv1 hi' hk) e]
   ·obtain⟨i,hi,rfl⟩:=hnj;rw[hφi i hi,hφo k hnk]at e;exact absurd e (mix i k hi (e1.lv1 hi hj) hnk (hlvo k hnk hk))
   ·obtain⟨i,hi,rfl⟩:=hnk;rw[hφi i hi,hφo j hnj]at e;exact absurd e.symm (mix i j hi (e1.lv1 hi hk) hnj (hlvo j hnj hj))
   ·rw[hφo j hnj,hφo k hnk]at e;exact hg.inj j k (hlvo j hnj hj) (hlvo k hnk hk) e
  ·have hj2:j<H2.length:=by have:=aB hj;rw[hHH2]at this;exact this
   by_cases hno:∃i,i<m∧g i=j
   ·obtain⟨i,hi,rfl⟩:=hno;obtain⟨b,b',q1,q2,q3⟩:=e1.at_ hi;rw[hj]at q2;cases q2;have hbr:=g1.blk i b q1
    cases q3 with
    | cells cs ds hl h1' hh =>
     obtain⟨p1,vs,t,p2,p3,p4⟩:=hbr;refine⟨h1',vs,t,by rw[hw2,hφi i hi];exact p2,by omega,fun q d u hd hu=>?_⟩;have hql:=aB hd;have hc:cs[q]?=some (cs[q]'(by omega)):=oG _;exact e1.up hwu (hh q _ d hc hd) (p4 q _ u hc hu)
    | buf e z xs fz hp =>
     obtain⟨vs,p2,p3,p4,p5,p6,p7⟩:=hbr;rw[←hκi i hi]at p2 p3 p4 p5;rw[←hφi i hi]at p2;refine⟨vs,fun hz=>by rw[hw2];exact p2 hz,p3,p4,p5,p6,fun q x t c u hx hc hu=>?_⟩;exact e1.up hwu (.pure c ((hp x (oH hx)).cells c (oH hc))) (p7 q x t c u hx hc hu)
    | map kk es hp =>
     obtain⟨p1,ms,cl,p2,p3,p4⟩:=hbr;refine⟨p1,ms,cl,by rw[hw2,hφi i hi];exact p2,p3,fun q p mm hj9 hmm=>?_⟩;obtain⟨p5,p6⟩:=p4 q p mm hj9 hmm;have hpp:=hp p (oH hj9);exact⟨e1.up hwu (.pure _ hpp.1) p5,e1.up hwu (.pure _ hpp.2) p6⟩
   ·have hj':s.H[j]?=some bl:=by rw[←(hout j hj2 hno).2,←hHH2];exact hj
    exact(hg.blk j bl hj').step hst hj' (hφo j hno) (hκo j hno) (fun hl=>by rw[hw2];exact hsame j hl (hnm' j hno))
 exact⟨u,s2,r1,a1,hw2,hg2,hst,e1.upT hwu hr ru,rfl,hHH2⟩
theorem eT{f:FuncId}{args0 args:List V}{H0 H H1 H2:List B}{r0:V}(n m:Nat)(g:Nat→Nat)(h:aU P f args0 H0 fun r H'=>r=r0∧H'=H1)(hn:H0.length=n)(hm:H1.length=m)(hnm:n≤m)
  (hinj:∀i j,i<m→j<m→g i=g j→i=j) (hgo:∀i,i<n→g i<H.length) (hgn:∀i,n≤i→i<m→g i=H.length+(i-n))
  (hB:∀i b,H0[i]?=some b→∃b',H[g i]?=some b'∧RenB g n b b') (hB1:∀i b,H1[i]?=some b→∃b',H2[g i]?=some b'∧RenB g m b b')
  (h2l:H2.length=H.length+(m-n)) (h2o:∀j,j<H.length→(∀i,i<n→g i≠j)→H2[j]?=H[j]?)
  (hal:args0.length=args.length) (ha:∀(i:Nat) a b,args0[i]?=some a→args[i]?=some b→Ren g n a b) (hr:Pure r0):aU P f args H fun r H'=>r=r0∧H'=H2 :=
 ng n m g h hn hm hnm hinj hgo hgn hB hB1 h2l h2o hal ha (.one _ _ (.pure _ hr))
end
end
end
end Go.AM
namespace Go.Proofs.YtdnhplencamncaaGreatDoor
section
open Go Go.AM
theorem conH_cutE{P:Program}{f:FuncId}{args:List V}{H:List B}{σ:Type}{ok:σ→Prop}{rf:σ→V}{Hf:σ→List B}(h:aU P f args H fun r H'=>∃x,ok x∧r=rf x∧∃G,H'=Hf x++G)(hl:∀x,ok x→H.length≤(Hf x).length)(hr:∀x,ok x→rb (Hf x).length (rf x))(hb:∀x,ok x→∀bl∈Hf x,rbB (Hf x).length bl):aU P f args H fun r H'=>∃x,ok x∧r=rf x∧H'=Hf x:=by
 refine⟨h.1,fun s vals h1 h2 h3 h4=>(h.2 s vals h1 h2 h3 h4).mono fun e w' ⟨u,s',r,a,b,c,d,e1,x,k1,k2,G,k3⟩=>?_⟩;subst k2;exact⟨u,s'.cut (Hf x),rf x,a,b,fS c k3 (hb x k1),ej c k3 (Step.refl _) s d (by rw[h1.1];exact hl x k1),gG k3 e1 (hr x k1),x,k1,rfl,rfl⟩
end
end Go.Proofs.YtdnhplencamncaaGreatDoor
namespace Go.AM
section
open Go
section
section
variable {P:Program} {T:Ty} {l n:Nat}
theorem rows_in{row:String}{args:Array Value}{w:World}{R:Value→World→Prop}(h:Rows P row args w R):RowsIn (Fence.wide.inRound l) n P row args w R :=
 fun c cs _=>let ⟨v,w',r,s⟩:=h c cs;⟨v,w',r,stepsIn_wide.2 s⟩
theorem op_in{o:Oper}(hnd:∀c,o.op≠.defer c){a:Act}{w:World}{next:Act→World→Prop}{Q:Exit→Act→World→Prop}(h:o.wp P a w next Q):o.wpIn (Fence.wide.inRound l) n P a w next Q:=by
 refine⟨fun _ _=>trivial,?_⟩;unfold Oper.wp at h;rw[Oper.semAt_eq _ _ _ hnd];generalize (execOp a.eval o).run P w=r at h ⊢
 have hnone:(Fence.wide.inRound l).depth.isSome=true→1≤n:=fun hh=>by cases hh
 cases r with
 | ok x w' =>
  cases x<;>simp only[Oper.upon,Oper.uponIn]at h ⊢
  all_goals first
   | exact h
   | exact⟨hnone,CallsIn.inRound l ((callsIn_wide.2 h).mono fun e w he=>by cases e<;>exact he)⟩
   | exact⟨hnone,rows_in h⟩
 | halt x w'=>cases x<;>simp only[Oper.upon,Oper.uponIn]at h ⊢<;>exact h
theorem wpOp_in{ops:Array Oper}(hnd:∀(i:Nat) o,ops[i]?=some o→∀c,o.op≠.defer c){Q:Exit→Act→World→Prop}(hQ:¬LetsOut Q){i:Nat}{K K':Act→World→Prop}(hk:∀a w,K a w→K' a w){a:Act}{w:World}(h:wpOp P ops Q i K a w):
  wpOpIn (Fence.wide.inRound l) n P ops Q i K' a w:=by
 unfold wpOp at h;unfold wpOpIn;split
 ·rename_i hi;simp only[hi]at h;exact hk _ _ h
 ·rename_i o ho;simp only[ho]at h;split
  ·rename_i hw;simp only[hw,if_true]at h
   rcases h with h | h
   ·exact Oper.wpIn_mono hk (op_in (hnd i o ho) h)
   ·exact absurd h.2 hQ
  ·rename_i hw;simp only[hw,if_false,oZ]at h;exact⟨fun _ _=>trivial,hk _ _ h⟩
theorem mL{md:Region.Mode}{ops:Array Oper}(hnd:∀(i:Nat) o,ops[i]?=some o→∀c,o.op≠.defer c){Q:Exit→Act→World→Prop}(hQ:¬LetsOut Q):∀(fuel:Nat) (listed:Array Bool) (a:Act) (w:World),wpAny P md ops Q fuel listed a w→wpAnyIn (Fence.wide.inRound l) n P md ops Q fuel listed a w
 | 0,_,_,_,h=>h
 | fuel+1,listed,a,w,h=>⟨h.1,fun i hi=>wpOp_in hnd hQ (fun a w hh=>mL hnd hQ fuel _ a w hh) (h.2 i hi)⟩
theorem wpOps_in{ops:Array Oper}(hnd:∀(i:Nat) o,ops[i]?=some o→∀c,o.op≠.defer c){Q:Exit→Act→World→Prop}(hQ:¬LetsOut Q):∀(is:List Nat) (a:Act) (w:World),wpOps P ops Q is a w→wpOpsIn (Fence.wide.inRound l) n P ops Q is a w
 | [],_,_,h=>h
 | i::rest,a,w,h=>by
  have h1:wpOp P ops Q i (wpOps P ops Q rest) a w:=by
   unfold wpOp;simp only[wpOps]at h;exact h
  have h2:=wpOp_in (l:=l) (n:=n) hnd hQ (K':=wpOpsIn (Fence.wide.inRound l) n P ops Q rest) (fun a w hh=>wpOps_in hnd hQ rest a w hh) h1;unfold wpOpIn at h2;simp only[wpOpsIn];exact h2
def gk(ops:Array Oper):Bool:=ops.toList.all fun o=>match o.op with
 | .defer _=>false
 | _=>true
theorem gj{ops:Array Oper}(h:gk ops=true)(i:Nat)(o:Oper)(ho:ops[i]?=some o):∀c,o.op≠.defer c:=fun c e=>by
 have h1:=List.all_eq_true.1 h o (by
  have:=Array.getElem?_eq_some_iff.1 ho;obtain⟨hl,rfl⟩:=this
  simp)
 rw[e]at h1;cases h1
def WR(P:Program)(l n:Nat)(c:Code)(Q:Exit→List V→List B→Prop)(fr:List V)(H:List B):Prop :=
 ∀(s:St) (a:Act),At P s H→Good s→FRel s fr a.tmps→a.defers=[]→c.wpIn (Fence.wide.inRound l) n P (gL s Q) a s.w
def NoOut(Q:Exit→List V→List B→Prop):Prop:=∀fr H,¬Q .outgrown fr H
theorem fo{Q:Exit→List V→List B→Prop}(h:NoOut Q)(s:St):¬LetsOut (gL s Q):=fun⟨_,_,fr,s',_,_,_,_,_,hq⟩=>h fr s'.H hq
theorem WR_region(hT:TOk P T){id:Nat}{ops:Array Oper}(hnd:gk ops=true){Q:Exit→List V→List B→Prop}(hQ:NoOut Q){fr:List V}{H:List B}
  (h:∀(C:V→List V→List B→(V→List B→Prop)→Prop) (K:List V→List B→Prop),(∀fv args H K',aL P fv args H K'→C fv args H K')→(∀fr H,Q .normal fr H→K fr H)→fi T ops C K ops.toList fr H):WR P l n (.region id ops false) Q fr H:=by
 intro s a hH hg hf hd;obtain⟨rfl,hz⟩:=hH;refine wpIn_region (wpOps_in (gj hnd) (fo hQ s) _ _ _ ?_);have:=iJ hT (Q:=gL s Q) ops.toList 0 s fr a (by simp) hz hg hf hd (h _ _ (fun _ _ _ _ h=>h) (fun _ _ h=>h)) (fun s' fr' a' k1 k2 k3 k4 k5=>⟨fr',s',rfl,k1,k2,k3,k4,k5⟩);simpa using this
theorem WR_drawT(hT:TOk P T)(hm:P.follows .mixedOrders=true){id:Nat}{ops:Array Oper}(hnd:gk ops=true){Q:Exit→List V→List B→Prop}(hQ:NoOut Q){fr:List V}{H:List B}(E:List Nat)(tab:List (Nat×List Nat))(cv:List (V×List B))(hst:statT ops E tab=true)
  (h:∀(C:V→List V→List B→(V→List B→Prop)→Prop) (K:List V→List B→Prop),(∀fv args H K',aL P fv args H K'→C fv args H K')→(∀fr H,Q .normal fr H→K fr H)→DrawT T ops E tab cv C K fr H):WR P l n (.region id ops true) Q fr H :=
 fun s a hH hg hf hd=>wpIn_region_any hm (mL (gj hnd) (fo hQ s) _ _ _ _ (nX hT E cv (fun C K hC hK=>drawT_ob E tab cv hst (h C K hC hK)) s a hH hg hf hd))
theorem WR_quiet(hT:TOk P T)(hm:P.follows .mixedOrders=true){id:Nat}{ops:Array Oper}(hnd:gk ops=true){Q:Exit→List V→List B→Prop}(hQ:NoOut Q){fr:List V}{H:List B}(cv:List V)(hst:eU ops []=true)
  (h:∀(C:V→List V→List B→(V→List B→Prop)→Prop) (K:List V→List B→Prop),(∀fv args H K',aL P fv args H K'→C fv args H K')→(∀fr H,Q .normal fr H→K fr H)→kH T ops C K ops.toList fr H cv):WR P l n (.region id ops true) Q fr H :=
 fun s a hH hg hf hd=>wpIn_region_any hm (mL (gj hnd) (fo hQ s) _ _ _ _ (nX hT [] (cv.map fun v=>(v,[])) (fun C K hC hK=>quiet_ob cv hst (h C K hC hK)) s a hH hg hf hd))
theorem WR.mono{c:Code}{Q Q':Exit→List V→List B→Prop}{fr:List V}{H:List B}(h:WR P l n c Q fr H)(hq:∀e fr H,Q e fr H→Q' e fr H):WR P l n c Q' fr H:=fun s a h1 h2 h3 h4 =>
 wpIn_mono (h s a h1 h2 h3 h4) fun _ _ _ ⟨fr,s',a1,a2,a3,a4,a5,a6⟩=>⟨fr,s',a1,a2,a3,a4,a5,hq _ _ _ a6⟩
theorem WR_skip{Q:Exit→List V→List B→Prop}{fr:List V}{H:List B}(h:Q .normal fr H):WR P l n .skip Q fr H:=fun s _a h1 h2 h3 h4=>wpIn_skip ⟨fr,s,rfl,h2,Step.refl s,h3,h4,h1.1▸h⟩
theorem WR_exit{id:Nat}{Q:Exit→List V→List B→Prop}{fr:List V}{H:List B}(h:Q (.exit id) fr H):WR P l n (.exit id) Q fr H:=fun s _a h1 h2 h3 h4=>wpIn_exit ⟨fr,s,rfl,h2,Step.refl s,h3,h4,h1.1▸h⟩
theorem WR_seq{x y:Code}{Q:Exit→List V→List B→Prop}{fr:List V}{H:List B}(h:WR P l n x (gN (WR P l n y Q) Q) fr H):WR P l n (.seq x y) Q fr H:=fun s a h1 h2 h3 h4=>by
 refine wpIn_seq (wpIn_mono (h s a h1 h2 h3 h4) fun e a' w' hl=>?_);obtain⟨fr',s',rfl,a2,a3,a4,a5,a6⟩:=hl
 cases e with
 | normal=>exact wpIn_mono (a6 s' a' ⟨rfl,h1.2.step a3⟩ a2 a4 a5) fun _ _ _ hl'=>bO a3 hl'
 | _=>exact⟨fr',s',rfl,a2,a3,a4,a5,a6⟩
theorem WR_cond{c:Operand}{x y:Code}{Q:Exit→List V→List B→Prop}{fr:List V}{H:List B}{b:Bool}(hc:aO fr c = .bool b)(h:WR P l n (if b then x else y) Q fr H):WR P l n (.cond c x y) Q fr H:=fun s a h1 h2 h3 h4=>by
 have hr:=h3.eval c;rw[hc]at hr;generalize hu:a.eval c=u at hr;cases hr;exact wpIn_cond hu (h s a h1 h2 h3 h4)
theorem WR_block{id:Nat}{c:Code}{Q:Exit→List V→List B→Prop}{fr:List V}{H:List B}(h:WR P l n c (dU id Q) fr H):WR P l n (.block id c) Q fr H:=fun s a h1 h2 h3 h4=>by
 refine wpIn_block (wpIn_mono (h s a h1 h2 h3 h4) fun e a' w' hl=>?_);obtain⟨fr',s',a1,a2,a3,a4,a5,a6⟩:=hl
 cases e with
 | exit id' =>
  simp only[Exit.inBlock,dU]at a6 ⊢;split
  ·rename_i hid;rw[if_pos hid]at a6;exact⟨fr',s',a1,a2,a3,a4,a5,a6⟩
  ·rename_i hid;rw[if_neg hid]at a6;exact⟨fr',s',a1,a2,a3,a4,a5,a6⟩
 | _=>exact⟨fr',s',a1,a2,a3,a4,a5,a6⟩
def LR(P:Program)(l n:Nat)(c:Code)(Q:Exit→List V→List B→Prop)(_:QTag Q)(fr:List V)(H:List B):Prop:=WR P l n c Q fr H
theorem lr_of{c:Code}{Q:Exit→List V→List B→Prop}{t:QTag Q}{fr:List V}{H:List B}(h:WR P l n c Q fr H):LR P l n c Q t fr H:=h
def lI:Code→Bool
 | .region _ ops _=>gk ops
 | .seq a b=>lI a&&lI b
 | .cond _ a b=>lI a&&lI b
 | .block _ a=>lI a
 | .skip | .exit _=>true
 | _=>false
theorem ie(hT:TOk P T)(hm:P.follows .mixedOrders=true):∀(c:Code) (Q:Exit→List V→List B→Prop) (fr:List V) (H:List B),lI c=true→NoOut Q→WX T (aL P) (LR P l n) c Q fr H→WR P l n c Q fr H
 | .skip,Q,fr,H,_,_,h=>WR_skip h
 | .region id ops false,Q,fr,H,hd,hQ,h=>by
  intro s a h1 h2 h3 h4;refine WR_region hT hd hQ (fun C K hC hK=>?_) s a h1 h2 h3 h4;have:=jK (C:=aL P) (fun _ _ _ _ _ hk hc=>hc.mono hk) _ _ _ h;refine bZ.WOps_mono hC _ _ _ ?_;exact kx.wops_k (fun fr H hq=>hK fr H hq) _ _ _ this
 | .region id ops true,Q,fr,H,hd,hQ,h=>by
  simp only[WX]at h
  rcases h with h | h
  ·exact h
  split at h
  ·exact h.elim
  obtain⟨hst,h⟩:=h;obtain⟨cv,hq⟩:=jJ _ _ _ h;intro s a h1 h2 h3 h4;refine WR_quiet hT hm hd hQ cv (jR hst (by simp[jS,jH])) (fun C K hC hK=>?_) s a h1 h2 h3 h4;exact kx.qops_mono hC hK _ _ _ _ hq
 | .cond c a b,Q,fr,H,hd,hQ,h=>by
  simp only[lI,oP]at hd;simp only[WX]at h;split at h
  ·rename_i t ht;refine WR_cond ht ?_
   cases t with
   | true=>exact ie hT hm a Q fr H hd.1 hQ (by simpa using h)
   | false=>exact ie hT hm b Q fr H hd.2 hQ (by simpa using h)
  ·exact h.elim
 | .seq a b,Q,fr,H,hd,hQ,h=>by
  simp only[lI,oP]at hd
  exact WR_seq ((ie hT hm a (gN (WX T (aL P) (LR P l n) b Q) Q) fr H hd.1 (fun fr H hq=>hQ fr H hq) h).mono fun e fr' H' hq=>by
   cases e with
   | normal=>exact ie hT hm b Q fr' H' hd.2 hQ hq
   | _=>exact hq)
 | .block id c,Q,fr,H,hd,hQ,h=>WR_block (ie hT hm c (dU id Q) fr H hd (fun fr H hq=>hQ fr H hq) h)
 | .exit id,Q,fr,H,_,_,h=>WR_exit h
 | .ret,_,_,_,hd,_,_=>by cases hd
 | .loop _,_,_,_,hd,_,_=>by cases hd
 | .rangeFunc ..,_,_,_,hd,_,_=>by cases hd
 | .scope _,_,_,_,hd,_,_=>by cases hd
 | .label _,_,_,_,hd,_,_=>by cases hd
 | .goto _,_,_,_,hd,_,_=>by cases hd
 | .refuse _,_,_,_,hd,_,_=>by cases hd
def NoMap(H:List B):Prop:=∀(k:Nat) kk es,H[k]?≠some (.map kk es)
theorem cells_at{s:St}(hg:Good s)(hm:NoMap s.H){k:Nat}(h:Lv s k):∃o,s.w.heap[s.φ k]?=some o∧o.isCells=true:=by
 obtain⟨bl,hbk⟩:∃bl,s.H[k]?=some bl:=⟨_,oG h.1⟩;have hb:=hg.blk k bl hbk
 cases bl with
 | cells cs=>obtain⟨_,vs,t,h2,_⟩:=hb;exact⟨_,h2,rfl⟩
 | map kk es=>exact absurd hbk (hm k kk es)
 | buf e z xs fz=>obtain⟨vs,h2,_⟩:=hb;exact⟨_,h2 (h.2 _ _ _ _ hbk),rfl⟩
theorem Rel.turn{s:St}{w':World}(hsz:s.w.heap.size≤w'.heap.size)(hc:∀a u,s.w.cell? a=some u→w'.cell? a=some u){v:V}{u:Value}(h:Rel s v u):Rel (s.at w') v u:=by
 have hP:∀{b},s.Prot b→(s.at w').Prot b:=fun {b} hp=>⟨om hp.1 hsz,hp.2.1,hp.2.2⟩
 induction h with
 | undef u=>exact .undef u
 | bool b=>exact .bool b
 | int k n=>exact .int k n
 | str x=>exact .str x
 | nilS=>exact .nilS
 | lst z full xs A cap b off u hcap hfull hA hz hcell hrel ih=>exact .lst z full xs A cap b off u hcap hfull (fun h0=>⟨(hA h0).1,hP (hA h0).2⟩) hz (fun i x j c hi hj=>hc _ _ (hcell i x j c hi hj)) ih
 | buf k off len tot e z xs fz A l c hk ht hh=>exact .buf k off len tot e z xs fz A l c hk ht hh
 | nilP=>exact .nilP
 | ptr k off cs hk=>exact .ptr k off cs hk
 | pin cs off b o u hp h1 hcell hrel ih=>exact .pin cs off b o u (hP hp) h1 (fun j c hj=>hc _ _ (hcell j c hj)) ih
 | pbuf k i off tot e z xs fz p hk ht hh=>exact .pbuf k i off tot e z xs fz p hk ht hh
 | sarr k n cs hk=>exact .sarr k n cs hk
 | nilM=>exact .nilM
 | map k kk es hk=>exact .map k kk es hk
 | fn f caps us hl _ ih=>exact .fn f caps us hl ih
 | nilFn=>exact .nilFn
 | nilI=>exact .nilI
 | ifc t x=>exact .ifc t x
 | agg cs us hl h1 _ ih=>exact .agg cs us hl h1 ih
 | tup vs us hl _ ih=>exact .tup vs us hl ih
theorem kL{s0 s:St}(hg0:Good s0)(hg:Good s)(hs:Step s0 s)(hm:NoMap s.H){w':World}{row:Option Nat}(hgr:s.w.grownBy w' row)(hr:∀r,row=some r→s0.w.heap.size≤r∧∃o,s.w.heap[r]?=some o∧o.isCells=false):
  Good (s.at w')∧Step s0 (s.at w')∧∀v u,Rel s v u→Rel (s.at w') v u:=by
 have hblk:∀k,Lv s k→w'.heap[s.φ k]?=s.w.heap[s.φ k]?:=fun k hk=>hgr.block _ (hg.lt k hk).1 (fun e=>by
  obtain⟨_,o,h1,h2⟩:=hr _ e.symm;obtain⟨o',h3,h4⟩:=cells_at hg hm hk;rw[h1]at h3;cases h3;rw[h2]at h4
  cases h4)
 have hc:∀a u,s.w.cell? a=some u→w'.cell? a=some u:=fun a u h=>by
  have hlt:a.block<s.w.heap.size:=by
   by_cases hl:a.block<s.w.heap.size
   ·exact hl
   ·unfold World.cell? at h;rw[qX (by omega)]at h;cases h
  rw[World.cell?_of_block (hgr.block _ hlt (fun e=>by
   obtain⟨_,o,h1,h2⟩:=hr _ e.symm;unfold World.cell? at h;rw[h1]at h
   cases o<;>simp[Obj.isCells]at h2 h))]
  exact h
 have hrel:∀v u,Rel s v u→Rel (s.at w') v u:=fun v u h=>h.turn hgr.size hc
 refine⟨⟨fun b h=>om (hg.fl b h) hgr.size,fun k hk=>⟨om (hg.lt k hk).1 hgr.size,(hg.lt k hk).2⟩,hg.inj,fun k bl hk=>?_⟩,⟨hs.F,hgr.os.trans hs.os,hgr.tape.trans hs.tape,hgr.output.trans hs.output,pY hs.size hgr.size,fun b hb hn=>?_,hs.len,hs.new,fun k bl hk=>?_⟩,hrel⟩
 ·have hb:=hg.blk k bl hk
  cases bl with
  | cells cs =>
   obtain⟨h1,vs,t,h2,h3,h4⟩:=hb;exact⟨h1,vs,t,(hblk k (lvC hk)).trans h2,h3,fun i c u a b=>hrel _ _ (h4 i c u a b)⟩
  | map kk es=>exact absurd hk (hm k kk es)
  | buf e z xs fz =>
   obtain⟨vs,h2,h3,h4,h5,h6,h7⟩:=hb;exact⟨vs,fun hz=>(hblk k (lvB hk hz)).trans (h2 hz),h3,h4,h5,h6,fun i x j c u a b d=>hrel _ _ (h7 i x j c u a b d)⟩
 ·rw[show(s.at w').w.heap[b]?=s.w.heap[b]? from hgr.block _ (om hb hs.size) (fun e=>by
   have:=(hr _ e.symm).1
   omega)]
  exact hs.out b hb hn
 ·have hst:=hs.keep k bl hk
  cases bl with
  | cells cs=>exact hst
  | map kk es=>exact hst
  | buf e z xs fz =>
   obtain⟨xs',fz',h1,h2,h3,h4,h5,h6⟩:=hst;refine⟨xs',fz',h1,h2,h3,fun hf=>⟨(h4 hf).1,(h4 hf).2.1,fun hz=>?_⟩,h5,h6⟩
   rw[show(s.at w').w.heap[s0.φ k]?=s.w.heap[s0.φ k]? from hgr.block _ (om (hg0.lt k (lvB hk hz)).1 hs.size) (fun e=>by
    have:=(hr _ e.symm).1;have:=(hg0.lt k (lvB hk hz)).1
    omega)]
   exact(h4 hf).2.2 hz
theorem ia{s s':St}(hg:Good s)(hm:NoMap s.H)(h:Step s s'):KeepsOthers s.w s'.w :=
 ⟨h.size,fun k o hk ho=>by
  rw[h.out k (Array.getElem?_eq_some_iff.1 hk).1 (fun i hi e=>by
   obtain⟨o',h1,h2⟩:=cells_at hg hm hi;rw[e,hk]at h1;cases h1;rw[ho]at h2
   cases h2)]
  exact hk⟩
end
end
end
end Go.AM
