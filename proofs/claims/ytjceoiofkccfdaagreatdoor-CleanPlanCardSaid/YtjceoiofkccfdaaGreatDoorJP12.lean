/- JP12: own texts of this seat, joined and shortened by pack4.py: Opb, Bulk, XO. -/
import Derived.Test.YtjceoiofkccfdaaGreatDoorJP6
import Derived.Test.YtjceoiofkccfdaaGreatDoorRows
set_option linter.unusedVariables false
set_option linter.unusedSimpArgs false
set_option maxRecDepth 100000
set_option maxHeartbeats 64000000
open Bool renaming and_eq_true→gN,or_eq_true→gm
open List renaming mem_of_getElem?→gH,getElem?_eq_getElem→gJ,range→gM,append_nil→gP,getElem_mem→gR,drop_of_length_le→gY,getElem?_map→gc,all_eq_true→gq,eq_nil_of_length_eq_zero→gv,length_cons→gw,length_take→hX,nil_append→iF,drop_zero→iG,take_of_length_le→iL,take_append_drop→iM,length_map→iP
open Nat renaming le_refl→gL,add_assoc→hY,le_trans→iD,zero_mul→iR,add_zero→iW,zero_le→ia,sub_self→iy
open Option renaming map_some→gj
namespace Go.AM
section
open Go Go.Deep
section
structure BulkOk {H:Type} (bk:DataW H→Nat):Prop where
 len:∀es sp,es.length≤bk (.slice es sp)
 elem:∀es sp d,d∈es→bk d≤bk (.slice es sp)
 part:∀ps d,d∈ps→bk d≤bk (.agg ps)
def ShB(T:Ty)(Bd:Nat):Nat→TypeId→List V→Prop
 | 0,_,_=>False
 | n+1,t,vs=>match T t with
  | none=>False
  | some i=>match i.desc with
   | .bool=>∃b,vs=[.bool b]
   | .int k=>∃m,vs=[.int k m]∧(Lit.int k m).wf=true
   | .string=>∃s,vs=[.str s]∧s.size≤maxLen
   | .slice e=>match T e with
    | some j=>∃xs,vs=[.lst j.size false xs]∧xs.length≤maxLen∧xs.length≤Bd∧∀x∈xs,∃ws,ShB T Bd n e ws∧ws.length=j.size∧x=(if bI j.desc then .agg ws else ws.headD .undef)
    | none=>False
   | .struct fs=>vs.length=i.size∧∀f∈fs.toList,∃j,T f.type=some j∧ShB T Bd n f.type ((vs.drop f.offset).take j.size)
   | _=>False
section
variable {P:Program} {T:Ty} {Bd:Nat} {Hd:Type} {enc:TypeId×Value→Hd} {w:World} {held:Bool}
theorem ek{n tot:Nat}{cs:List Value}(hlen:cs.length=tot):∀(l:List Field) (off:Nat),eA T tot off l=true→off≤tot →
  (∀f∈l,∀j,T f.type=some j→∃vs,CR w vs ((cs.drop f.offset).take j.size)∧ShB T Bd n f.type vs)→
  ∃vs,CR w vs (cs.drop off)∧∀f∈l,∃j,T f.type=some j∧off≤f.offset∧ShB T Bd n f.type ((vs.drop (f.offset-off)).take j.size)
 | [],off,h,hle,_=>by
  simp only[eA,beq_iff_eq]at h;refine⟨[],⟨by simp;omega,by simp,by simp⟩,by simp⟩
 | f::r,off,h,hle,hf=>by
  simp only[eA]at h;split at h
  ·rename_i j hj;simp only[gN,beq_iff_eq]at h;obtain⟨hoff,h⟩:=h;have hle2:off+j.size≤tot:=lay_le r _ h;obtain⟨vs,hcr,hsh⟩:=hf f (by simp) j hj;obtain⟨ws,hcr2,hws⟩:=ek hlen r (off+j.size) h hle2 (fun g hg=>hf g (by simp[hg]))
   have hvl:vs.length=j.size:=by rw[hcr.len,hoff,hX,List.length_drop];omega
   refine⟨vs++ws,?_,fun g hg=>?_⟩
   ·have:=hcr.append hcr2
    rwa [hoff,←List.drop_drop,iM]at this
   ·rcases List.mem_cons.1 hg with rfl | hg
    ·refine⟨j,hj,by omega,?_⟩;rw[hoff,iy,iG,List.take_append_of_le_length (by omega),iL (by omega)];exact hsh
    ·obtain⟨j2,hj2,hle3,hs2⟩:=hws g hg;refine⟨j2,hj2,by omega,?_⟩;rw[List.drop_append,gY (by omega),iF,hvl,show g.offset-off-j.size=g.offset-(off+j.size) by omega];exact hs2
  ·cases h
where
 lay_le {tot:Nat} : ∀(l:List Field) (off:Nat),eA T tot off l=true→off≤tot
  | [],off,h=>by simp only[eA,beq_iff_eq]at h;omega
  | f::r,off,h=>by
   simp only[eA]at h;split at h
   ·simp only[gN]at h;have:=lay_le r _ h.2;omega
   ·cases h
theorem opnB{bk:DataW Hd→Nat}(hB:BulkOk bk)(hT:TOk P T)(hc:∀t i,T t=some i→P.cellsOf t=i.size):∀(n fuel:Nat) (t:TypeId) (cs:List Value) (x:DataW Hd×List MemPlace),ShOk T n t=true→DataW.trod enc P w 0 (fun _=>true) held fuel t cs=some x→bk x.1≤Bd→∃vs,CR w vs cs∧ShB T Bd n t vs
 | 0,_,_,_,_,h,_,_=>by simp[ShOk]at h
 | n+1,fuel,t,cs,x,h,ht,hbd=>by
  simp only[ShOk]at h;split at h
  ·cases h
  ·rename_i i hi;have hu:=hT.und t i hi;have hcell:=hc t i hi;split at h
   ·rename_i hd;rw[hd]at hu
    cases fuel with
    | zero=>simp[DataW.trod]at ht
    | succ m =>
     unfold DataW.trod at ht;rw[hu]at ht;split at ht<;>simp_all;exact⟨_,CR.single (.bool _) rfl,by simp[ShB,hi,hd]⟩
   ·rename_i k hd;rw[hd]at hu
    cases fuel with
    | zero=>simp[DataW.trod]at ht
    | succ m =>
     unfold DataW.trod at ht;rw[hu]at ht;split at ht<;>simp_all;exact⟨_,CR.single (.int _ _) rfl,by simp[ShB, *]⟩
   ·rename_i hd;rw[hd]at hu
    cases fuel with
    | zero=>simp[DataW.trod]at ht
    | succ m =>
     unfold DataW.trod at ht;rw[hu]at ht;split at ht<;>simp_all;exact⟨_,CR.single (.str _) rfl,by simp[ShB, *]⟩
   ·rename_i e hd;rw[hd]at hu;split at h
    ·rename_i j hj;simp only[gN,decide_eq_true_eq,gm,beq_iff_eq]at h;obtain⟨⟨hz,hag⟩,hok⟩:=h
     rcases open_slice hu ht with⟨rfl,_⟩ | ⟨a,len,cap,m,q,D,Pl,rfl,_,hle,hcap,hm,hxe,hel⟩
     ·exact⟨[.lst j.size false []],CR.single (bL _ false _ _ (by simp)) rfl,by simp only[ShB,hi,hd,hj];exact⟨[],rfl,by simp,by simp,by simp⟩⟩
     ·simp only[if_true]at hm;subst hm;rw[hc e j hj]at hel
      have hxb:∀i,i<len→bk (D i)≤Bd:=fun i hi'=>iD (hB.elem _ _ (D i) (List.mem_map.2 ⟨i,List.mem_range.2 hi',rfl⟩)) (by rw[hxe]at hbd;exact hbd)
      have hlb:len≤Bd:=by
       have h1:=hB.len ((gM len).map D) ((gM (m-len)).map fun j=>D (len+j));rw[iP,List.length_range]at h1;rw[hxe]at hbd;exact iD h1 hbd
      have hex:∀i,i<len→∃ws:List V,ShB T Bd n e ws∧ws.length=j.size∧(∀v∈ws,v.one=true)∧∀(l:Nat) v,ws[l]?=some v→∃c,w.cell? (a.add (i*j.size+l))=some c∧Rel (base (fun _=>False) w) v c:=fun i hil=>by
       obtain⟨cs',h1,h2⟩:=hel i (by omega);obtain⟨ws,hcr,hsh⟩:=opnB hB hT hc n q e cs' _ hok h2 (hxb i hil);obtain⟨_,hcl,hat⟩:=World.cells?_some h1;refine⟨ws,hsh,by rw[hcr.len,hcl],hcr.one,fun l v hv=>?_⟩
       have hl:l<j.size:=by have:=aB hv;rw[hcr.len,hcl]at this;exact this
       have hcv:cs'[l]?=some (cs'[l]'(by omega)):=gJ (by omega);have:=hat l hl;rw[hcv,add_add]at this;exact⟨_,this,hcr.rel l v _ hv hcv⟩
      obtain⟨W,hW⟩:=choose_lt hex
      obtain⟨xs,hxs⟩:∃xs:List V,xs=(gM len).map fun i=>(if bI j.desc then V.agg (W i) else(W i).headD .undef):=⟨_,rfl⟩
      have hxl:xs.length=len:=by simp[hxs]
      have hxat:∀(i:Nat) y,xs[i]?=some y→i<len∧y=(if bI j.desc then V.agg (W i) else(W i).headD .undef)∧y.cells=W i:=fun i y hy=>by
       have hil:i<len:=by have:=aB hy;omega
       rw[hxs,gc,List.getElem?_range hil]at hy;simp only[gj,Option.some.injEq]at hy;obtain⟨_,hwl,hw1,_⟩:=hW i hil;refine⟨hil,hy.symm,?_⟩;rw[←hy];split
       ·rfl
       ·rename_i hna
        have hz1:j.size=1:=by rcases hag with h | h;exact absurd h hna;exact h
        obtain⟨v,hv⟩:=List.length_eq_one_iff.1 (hwl.trans hz1);rw[hv];exact one_cells (hw1 v (by rw[hv];simp))
      have hsh:∀y∈xs,∃ws,ShB T Bd n e ws∧ws.length=j.size∧y=(if bI j.desc then V.agg ws else ws.headD .undef):=fun y hy=>by
       obtain⟨i,hi'⟩:=List.mem_iff_getElem?.1 hy;obtain⟨hil,hye,_⟩:=hxat i y hi';exact⟨W i,(hW i hil).1,(hW i hil).2.1,hye⟩
      refine⟨[.lst j.size false xs],CR.single ?_ rfl,by simp only[ShB,hi,hd,hj];exact⟨xs,rfl,by omega,by omega,hsh⟩⟩
      ·have hspot:0<len→a.spot=none∧a.block<w.heap.size:=fun h0=>by
        obtain⟨_,hwl,_,hcv⟩:=hW 0 h0;obtain⟨c,hcc,_⟩:=hcv 0 (W 0)[0] (gJ (by omega));simp only[iR,iW]at hcc;have hb:=World.block_lt_of_cell? w _ hcc;have hs:=spot_cell hcc;simpa[Addr.add] using And.intro hs hb
       have:=Rel.lst (s:=base (fun _=>False) w) j.size false xs (some a) m a.block a.off (fun i l=>(w.cell? ⟨a.block,a.off+i*j.size+l,none⟩).getD undef) (by omega) (by simp) (fun h0=>by
         obtain⟨h1,h2⟩:=hspot (by omega)
         exact⟨by cases a;simp_all,h2,fun h=>h,fun k hk=>by have:=hk.1;simp[base]at this⟩)
        (fun y hy=>by
         obtain⟨i,hi'⟩:=List.mem_iff_getElem?.1 hy;obtain⟨hil,_,hyc⟩:=hxat i y hi';rw[hyc]
         exact⟨(hW i hil).2.1,(hW i hil).2.2.1⟩)
        (fun i y l c hy hcc=>by
         obtain⟨hil,_,hyc⟩:=hxat i y hy;rw[hyc]at hcc;obtain⟨u,hu1,_⟩:=(hW i hil).2.2.2 l c hcc;rw[addr_at (hspot (by omega)).1,←hY]at hu1;show w.cell? _=_
         rw[hu1];rfl)
        (fun i y l c hy hcc=>by
         obtain⟨hil,_,hyc⟩:=hxat i y hy;rw[hyc]at hcc;obtain⟨u,hu1,hu2⟩:=(hW i hil).2.2.2 l c hcc;rw[addr_at (hspot (by omega)).1,←hY]at hu1;rw[hu1]
         exact hu2)
       rwa [hxl]at this
    ·cases h
   ·rename_i fs hd;rw[hd]at hu;simp only[gN,gq]at h;obtain⟨xs,q,_,hxe,hlen,hxl,hf⟩:=DataW.trod_struct hu ht;rw[hcell]at hlen
    obtain⟨vs,hcr,hvs⟩:=ek (T:=T) (Bd:=Bd) (w:=w) (n:=n) hlen fs.toList 0 h.1 (ia _) (fun f hfm j hj=>by
     obtain⟨k,hk⟩:=List.mem_iff_getElem?.1 hfm
     have hk':fs[k]?=some f:=by simpa using hk
     have h1:=hf k f hk'
     have hkl:k<xs.length:=by rw[hxl];exact(Array.getElem?_eq_some_iff.1 hk').1
     rw[gJ hkl,hc f.type j hj]at h1
     exact opnB hB hT hc n q f.type _ _ (h.2 f hfm) h1 (iD (hB.part _ _ (List.mem_map.2 ⟨_,gR hkl,rfl⟩)) (by rw[hxe]at hbd;exact hbd)))
    rw[iG]at hcr;refine⟨vs,hcr,?_⟩;simp only[ShB,hi,hd];refine⟨by rw[hcr.len,hlen],fun f hfm=>?_⟩;obtain⟨j,hj,_,hs⟩:=hvs f hfm;exact⟨j,hj,by simpa using hs⟩
   ·cases h
end
end
end
end Go.AM
namespace Go.Proofs.YtjceoiofkccfdaaGreatDoor
section
open Go Go.AM
theorem bulk_one{H:Type}(d:DataW H):1≤Rows.uptoBulk d:=by
 cases d with
 | lit l=>cases l<;>simp[Rows.uptoBulk]
 | nil=>simp[Rows.uptoBulk]
 | ptr d=>simp[Rows.uptoBulk]
 | slice a b=>simp[Rows.uptoBulk]
 | agg l=>simp[Rows.uptoBulk]
 | iface t d=>simp[Rows.uptoBulk]
 | map l=>simp[Rows.uptoBulk]
 | held h=>simp[Rows.uptoBulk]
theorem gE{H:Type}{d:DataW H} : ∀{l:List (DataW H)},d∈l→Rows.uptoBulk d≤Rows.uptoBulkAll l
 | [],h=>by cases h
 | x::r,h=>by
  rw[Rows.uptoBulkAll]
  rcases List.mem_cons.1 h with rfl | h
  ·omega
  ·have:=gE h;omega
theorem bulk_len{H:Type} : ∀l:List (DataW H),l.length≤Rows.uptoBulkAll l
 | []=>by simp
 | x::r=>by
  rw[Rows.uptoBulkAll,gw];have:=bulk_one x;have:=bulk_len r;omega
theorem bulk_ok{H:Type} : BulkOk (H:=H) Rows.uptoBulk where
 len es sp:=by rw[Rows.uptoBulk];have:=bulk_len es;omega
 elem es sp d h:=by rw[Rows.uptoBulk];have:=gE h;omega
 part ps d h:=by rw[Rows.uptoBulk];have:=gE h;omega
theorem bulk_le{H:Type}{l:List (DataW H)}(h:Rows.uptoSmall H l=true):Rows.uptoBulkAll l≤1048576:=of_decide_eq_true h
end
end Go.Proofs.YtjceoiofkccfdaaGreatDoor
namespace Go.AM
section
open Go
section
section
variable {P:Program} {T:Ty}
theorem conH_of_conOX{f:FuncId}{args args':List V}{K:Nat→Nat→List V→Prop}{H:List B}(h:dX P f args' K)(hl:args.length=args'.length)(he:∀(i:Nat) a a',args[i]?=some a→args'[i]?=some a'→Exp H a a')(hs:∀e z xs,K e z xs→∀x∈xs,∀c∈x.cells,Scalar c):
  cB P f args H fun r H'=>∃e z xs,r = .buf H.length 0 xs.length xs.length∧H'=H++[.buf e z xs false]∧(∀x∈xs,Pure x)∧K e z xs:=by
 refine⟨h.1,fun s vals hH hg hsz hrel=>?_⟩;obtain⟨rfl,hZ⟩:=hH
 have hFl:∀b,hold s (fun _=>True) b→b<s.w.heap.size:=by
  rintro b (h | ⟨k,hk,rfl,_⟩)
  ·exact hg.fl b h
  ·exact(hg.lt k hk).1
 refine(h.2 (hold s fun _=>True) s.w vals (hZ.hold _) hFl (by omega) (fun i a' u ha' hu=>?_)).mono fun e w' ⟨u,e',z,xs,A,g0,c,a1,a2,aA,a3,a4,a5,a6,a7⟩=>?_
 ·have hi:i<args.length:=by have:=aB ha';omega
  have ha:args[i]?=some args[i]:=gJ hi;exact(hrel i _ u ha hu).exp hg (he i _ a' ha ha') (fun _ _ _ _ _=>trivial)
 ·subst a2;by_cases hc0:c=0
  ·subst hc0;obtain⟨_,_,_,g4,_⟩:=a5.blk 0 _ rfl;obtain rfl:xs=[]:=gv (by simpa using g4);obtain⟨p1,p2⟩:=push0 hg 0 e' z false a6.os a6.tape a6.output a6.size a6.block;refine⟨_,s.push w' 0 0 (.buf e' z [] false),.buf s.H.length 0 0 0,a1,rfl,p1,p2,?_,e',z,[],rfl,rfl,a3,a7⟩;refine .buf s.H.length 0 0 0 e' z [] false _ _ _ (by simp[St.push]) (gL _) (fun _=>?_);simp only[St.push,aF];exact⟨fun h=>absurd rfl h,by simp,by simp,by simp⟩
  have a4:=a4 hc0;have hA:=aA hc0;subst hA;have hgl:g0<w'.heap.size:=(a5.lt 0 (lvB (e:=e') (z:=z) (xs:=xs) (fz:=false) rfl hc0)).1;obtain⟨g,hgg⟩:∃g,g=g0:=⟨g0,rfl⟩;subst hgg;have hst:=bc (bl:=.buf e' z xs false) (c:=c) hg a6.os a6.tape a6.output a6.size a6.block a4;refine⟨_,s.push w' g c (.buf e' z xs false),.buf s.H.length 0 xs.length xs.length,a1,rfl,bv hg a6.os a6.tape a6.output a6.size a6.block a4 hgl (fun hst=>?_),hst,?_,e',z,xs,rfl,rfl,a3,a7⟩
  ·obtain⟨vs,g2,g3,g4,g5,g6,g7⟩:=a5.blk 0 _ rfl;exact⟨vs,fun _=>by simp only[St.push,aF];exact g2 hc0,by simp only[St.push,aF];exact g3,by simp only[St.push,aF];exact g4,by simp only[St.push,aF];exact g5,g6,fun i x j d u hx hd hu=>(g7 i x j d u hx hd hu).scalar (hs _ _ _ a7 x (gH hx) d (gH hd))⟩
  ·refine .buf s.H.length 0 xs.length xs.length e' z xs false _ _ _ (by simp[St.push]) (gL _) (fun _=>?_);simp only[St.push,aF];exact⟨fun _=>by simp,trivial,by simp,by simp⟩
theorem callOX{f:FuncId}{args args':List V}{H:List B}{K:Nat→Nat→List V→Prop}(h:dX P f args' K)(hl:args.length=args'.length)(he:∀(i:Nat) a a',args[i]?=some a→args'[i]?=some a'→Exp H a a')(hs:∀e z xs,K e z xs→∀x∈xs,∀c∈x.cells,Scalar c):
  aG P (.fn f []) args H fun r H'=>∃e z xs,r = .buf H.length 0 xs.length xs.length∧H'=H++[.buf e z xs false]∧(∀x∈xs,Pure x)∧K e z xs:=by
 simp only[aG,gP];exact conH_of_conOX h hl he hs
end
end
end
end Go.AM
