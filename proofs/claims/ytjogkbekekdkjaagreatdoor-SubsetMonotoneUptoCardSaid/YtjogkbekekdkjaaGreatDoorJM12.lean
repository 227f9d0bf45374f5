/- JM12: own texts of this seat, joined and shortened by pack4.py: Opb, Bulk, Cut, FrB, DrN, XF, XO. -/
import Derived.Test.YtjogkbekekdkjaaGreatDoorJM6
import Derived.Test.YtjogkbekekdkjaaGreatDoorRows
set_option linter.unusedVariables false
set_option linter.unusedSimpArgs false
set_option maxRecDepth 100000
set_option maxHeartbeats 64000000
open Array renaming getD_eq_getD_getElem?→qR,getElem?_setIfInBounds_ne→rG,getElem?_eq_none→rP,getD→re,replicate→rj,all_eq_true'→sF
open Bool renaming and_eq_true→pC,false_eq_true→pQ,not_eq_true'→pg,or_eq_true→pu
open List renaming getElem?_eq_getElem→ov,getElem_mem→ow,mem_of_getElem?→oz,drop_of_length_le→pF,range→pG,append_nil→pL,getElem?_set_self→pO,getElem?_set_ne→pR,drop_zero→pT,nil_append→pU,all_eq_true→pV,mem_cons_self→pW,take_of_length_le→pX,length_filter_le→pY,mem_cons_of_mem→pZ,length_map→pc,mem_singleton→pe,mem_of_mem_take→pi,getElem?_map→pj,length_cons→pk,getElem?_take→po,mem_append→pz,getElem?_eq_none→qA,ext_getElem?→qE,take_append_drop→qF,getElem?_drop→qG,mem_filter→qH,eq_nil_of_length_eq_zero→qN,length_take→qO,getElem?_cons_succ→qg,mem_range→qh,getElem?_of_mem→qr,map_congr_left→rE,take_append_of_le_length→rL,map_nil→rQ,length_drop→rR,any_eq_true→rY,getElem?_set→sH,length_range→sI,tail→sU
open Nat renaming le_refl→pI,le_trans→ph,zero_le→pv,lt_or_ge→px,zero_add→qM,add_assoc→qQ,sub_self→qi,zero_mul→qm,add_zero→qz,strongRecOn→rV
open Option renaming map_some→pm,getD_some→qt
namespace Go.AM
section
open Go Go.Deep
section
structure BulkOk {H:Type} (bk:DataW H→Nat):Prop where
 len:∀es sp,es.length≤bk (.slice es sp)
 elem:∀es sp d,d∈es→bk d≤bk (.slice es sp)
 part:∀ps d,d∈ps→bk d≤bk (.agg ps)
def ShB(T:Ty)(Bd:Nat):Nat→TypeId→List V→Prop
 | 0,_,_=>False
 | n+1,t,vs=>match T t with
  | none=>False
  | some i=>match i.desc with
   | .bool=>∃b,vs=[.bool b]
   | .int k=>∃m,vs=[.int k m]∧(Lit.int k m).wf=true
   | .string=>∃s,vs=[.str s]∧s.size≤maxLen
   | .slice e=>match T e with
    | some j=>∃xs,vs=[.lst j.size false xs]∧xs.length≤maxLen∧xs.length≤Bd∧∀x∈xs,∃ws,ShB T Bd n e ws∧ws.length=j.size∧x=(if bK j.desc then .agg ws else ws.headD .undef)
    | none=>False
   | .struct fs=>vs.length=i.size∧∀f∈fs.toList,∃j,T f.type=some j∧ShB T Bd n f.type ((vs.drop f.offset).take j.size)
   | _=>False
section
variable {P:Program} {T:Ty} {Bd:Nat} {Hd:Type} {enc:TypeId×Value→Hd} {w:World} {held:Bool}
theorem fG{n tot:Nat}{cs:List Value}(hlen:cs.length=tot):∀(l:List Field) (off:Nat),eT T tot off l=true→off≤tot →
  (∀f∈l,∀j,T f.type=some j→∃vs,CR w vs ((cs.drop f.offset).take j.size)∧ShB T Bd n f.type vs)→
  ∃vs,CR w vs (cs.drop off)∧∀f∈l,∃j,T f.type=some j∧off≤f.offset∧ShB T Bd n f.type ((vs.drop (f.offset-off)).take j.size)
 | [],off,h,hle,_=>by
  simp only[eT,beq_iff_eq]at h;refine⟨[],⟨by simp;omega,by simp,by simp⟩,by simp⟩
 | f::r,off,h,hle,hf=>by
  simp only[eT]at h;split at h
  ·rename_i j hj;simp only[pC,beq_iff_eq]at h;obtain⟨hoff,h⟩:=h;have hle2:off+j.size≤tot:=lay_le r _ h;obtain⟨vs,hcr,hsh⟩:=hf f (by simp) j hj;obtain⟨ws,hcr2,hws⟩:=fG hlen r (off+j.size) h hle2 (fun g hg=>hf g (by simp[hg]))
   have hvl:vs.length=j.size:=by rw[hcr.len,hoff,qO,rR];omega
   refine⟨vs++ws,?_,fun g hg=>?_⟩
   ·have:=hcr.append hcr2
    rwa [hoff,←List.drop_drop,qF]at this
   ·rcases List.mem_cons.1 hg with rfl | hg
    ·refine⟨j,hj,by omega,?_⟩;rw[hoff,qi,pT,rL (by omega),pX (by omega)];exact hsh
    ·obtain⟨j2,hj2,hle3,hs2⟩:=hws g hg;refine⟨j2,hj2,by omega,?_⟩;rw[List.drop_append,pF (by omega),pU,hvl,show g.offset-off-j.size=g.offset-(off+j.size) by omega];exact hs2
  ·cases h
where
 lay_le {tot:Nat} : ∀(l:List Field) (off:Nat),eT T tot off l=true→off≤tot
  | [],off,h=>by simp only[eT,beq_iff_eq]at h;omega
  | f::r,off,h=>by
   simp only[eT]at h;split at h
   ·simp only[pC]at h;have:=lay_le r _ h.2;omega
   ·cases h
theorem opnB{bk:DataW Hd→Nat}(hB:BulkOk bk)(hT:TOk P T)(hc:∀t i,T t=some i→P.cellsOf t=i.size):∀(n fuel:Nat) (t:TypeId) (cs:List Value) (x:DataW Hd×List MemPlace),ShOk T n t=true→DataW.trod enc P w 0 (fun _=>true) held fuel t cs=some x→bk x.1≤Bd→∃vs,CR w vs cs∧ShB T Bd n t vs
 | 0,_,_,_,_,h,_,_=>by simp[ShOk]at h
 | n+1,fuel,t,cs,x,h,ht,hbd=>by
  simp only[ShOk]at h;split at h
  ·cases h
  ·rename_i i hi;have hu:=hT.und t i hi;have hcell:=hc t i hi;split at h
   ·rename_i hd;rw[hd]at hu
    cases fuel with
    | zero=>simp[DataW.trod]at ht
    | succ m =>
     unfold DataW.trod at ht;rw[hu]at ht;split at ht<;>simp_all;exact⟨_,CR.single (.bool _) rfl,by simp[ShB,hi,hd]⟩
   ·rename_i k hd;rw[hd]at hu
    cases fuel with
    | zero=>simp[DataW.trod]at ht
    | succ m =>
     unfold DataW.trod at ht;rw[hu]at ht;split at ht<;>simp_all;exact⟨_,CR.single (.int _ _) rfl,by simp[ShB, *]⟩
   ·rename_i hd;rw[hd]at hu
    cases fuel with
    | zero=>simp[DataW.trod]at ht
    | succ m =>
     unfold DataW.trod at ht;rw[hu]at ht;split at ht<;>simp_all;exact⟨_,CR.single (.str _) rfl,by simp[ShB, *]⟩
   ·rename_i e hd;rw[hd]at hu;split at h
    ·rename_i j hj;simp only[pC,decide_eq_true_eq,pu,beq_iff_eq]at h;obtain⟨⟨hz,hag⟩,hok⟩:=h
     rcases open_slice hu ht with⟨rfl,_⟩ | ⟨a,len,cap,m,q,D,Pl,rfl,_,hle,hcap,hm,hxe,hel⟩
     ·exact⟨[.lst j.size false []],CR.single (bR _ false _ _ (by simp)) rfl,by simp only[ShB,hi,hd,hj];exact⟨[],rfl,by simp,by simp,by simp⟩⟩
     ·simp only[if_true]at hm;subst hm;rw[hc e j hj]at hel
      have hxb:∀i,i<len→bk (D i)≤Bd:=fun i hi'=>ph (hB.elem _ _ (D i) (List.mem_map.2 ⟨i,List.mem_range.2 hi',rfl⟩)) (by rw[hxe]at hbd;exact hbd)
      have hlb:len≤Bd:=by
       have h1:=hB.len ((pG len).map D) ((pG (m-len)).map fun j=>D (len+j));rw[pc,sI]at h1;rw[hxe]at hbd;exact ph h1 hbd
      have hex:∀i,i<len→∃ws:List V,ShB T Bd n e ws∧ws.length=j.size∧(∀v∈ws,v.one=true)∧∀(l:Nat) v,ws[l]?=some v→∃c,w.cell? (a.add (i*j.size+l))=some c∧Rel (base (fun _=>False) w) v c:=fun i hil=>by
       obtain⟨cs',h1,h2⟩:=hel i (by omega);obtain⟨ws,hcr,hsh⟩:=opnB hB hT hc n q e cs' _ hok h2 (hxb i hil);obtain⟨_,hcl,hat⟩:=World.cells?_some h1;refine⟨ws,hsh,by rw[hcr.len,hcl],hcr.one,fun l v hv=>?_⟩
       have hl:l<j.size:=by have:=aB hv;rw[hcr.len,hcl]at this;exact this
       have hcv:cs'[l]?=some (cs'[l]'(by omega)):=ov (by omega);have:=hat l hl;rw[hcv,add_add]at this;exact⟨_,this,hcr.rel l v _ hv hcv⟩
      obtain⟨W,hW⟩:=choose_lt hex
      obtain⟨xs,hxs⟩:∃xs:List V,xs=(pG len).map fun i=>(if bK j.desc then V.agg (W i) else(W i).headD .undef):=⟨_,rfl⟩
      have hxl:xs.length=len:=by simp[hxs]
      have hxat:∀(i:Nat) y,xs[i]?=some y→i<len∧y=(if bK j.desc then V.agg (W i) else(W i).headD .undef)∧y.cells=W i:=fun i y hy=>by
       have hil:i<len:=by have:=aB hy;omega
       rw[hxs,pj,List.getElem?_range hil]at hy;simp only[pm,Option.some.injEq]at hy;obtain⟨_,hwl,hw1,_⟩:=hW i hil;refine⟨hil,hy.symm,?_⟩;rw[←hy];split
       ·rfl
       ·rename_i hna
        have hz1:j.size=1:=by rcases hag with h | h;exact absurd h hna;exact h
        obtain⟨v,hv⟩:=List.length_eq_one_iff.1 (hwl.trans hz1);rw[hv];exact one_cells (hw1 v (by rw[hv];simp))
      have hsh:∀y∈xs,∃ws,ShB T Bd n e ws∧ws.length=j.size∧y=(if bK j.desc then V.agg ws else ws.headD .undef):=fun y hy=>by
       obtain⟨i,hi'⟩:=List.mem_iff_getElem?.1 hy;obtain⟨hil,hye,_⟩:=hxat i y hi';exact⟨W i,(hW i hil).1,(hW i hil).2.1,hye⟩
      refine⟨[.lst j.size false xs],CR.single ?_ rfl,by simp only[ShB,hi,hd,hj];exact⟨xs,rfl,by omega,by omega,hsh⟩⟩
      ·have hspot:0<len→a.spot=none∧a.block<w.heap.size:=fun h0=>by
        obtain⟨_,hwl,_,hcv⟩:=hW 0 h0;obtain⟨c,hcc,_⟩:=hcv 0 (W 0)[0] (ov (by omega));simp only[qm,qz]at hcc;have hb:=World.block_lt_of_cell? w _ hcc;have hs:=spot_cell hcc;simpa[Addr.add] using And.intro hs hb
       have:=Rel.lst (s:=base (fun _=>False) w) j.size false xs (some a) m a.block a.off (fun i l=>(w.cell? ⟨a.block,a.off+i*j.size+l,none⟩).getD undef) (by omega) (by simp) (fun h0=>by
         obtain⟨h1,h2⟩:=hspot (by omega)
         exact⟨by cases a;simp_all,h2,fun h=>h,fun k hk=>by have:=hk.1;simp[base]at this⟩)
        (fun y hy=>by
         obtain⟨i,hi'⟩:=List.mem_iff_getElem?.1 hy;obtain⟨hil,_,hyc⟩:=hxat i y hi';rw[hyc]
         exact⟨(hW i hil).2.1,(hW i hil).2.2.1⟩)
        (fun i y l c hy hcc=>by
         obtain⟨hil,_,hyc⟩:=hxat i y hy;rw[hyc]at hcc;obtain⟨u,hu1,_⟩:=(hW i hil).2.2.2 l c hcc;rw[addr_at (hspot (by omega)).1,←qQ]at hu1;show w.cell? _=_
         rw[hu1];rfl)
        (fun i y l c hy hcc=>by
         obtain⟨hil,_,hyc⟩:=hxat i y hy;rw[hyc]at hcc;obtain⟨u,hu1,hu2⟩:=(hW i hil).2.2.2 l c hcc;rw[addr_at (hspot (by omega)).1,←qQ]at hu1;rw[hu1]
         exact hu2)
       rwa [hxl]at this
    ·cases h
   ·rename_i fs hd;rw[hd]at hu;simp only[pC,pV]at h;obtain⟨xs,q,_,hxe,hlen,hxl,hf⟩:=DataW.trod_struct hu ht;rw[hcell]at hlen
    obtain⟨vs,hcr,hvs⟩:=fG (T:=T) (Bd:=Bd) (w:=w) (n:=n) hlen fs.toList 0 h.1 (pv _) (fun f hfm j hj=>by
     obtain⟨k,hk⟩:=List.mem_iff_getElem?.1 hfm
     have hk':fs[k]?=some f:=by simpa using hk
     have h1:=hf k f hk'
     have hkl:k<xs.length:=by rw[hxl];exact(Array.getElem?_eq_some_iff.1 hk').1
     rw[ov hkl,hc f.type j hj]at h1
     exact opnB hB hT hc n q f.type _ _ (h.2 f hfm) h1 (ph (hB.part _ _ (List.mem_map.2 ⟨_,ow hkl,rfl⟩)) (by rw[hxe]at hbd;exact hbd)))
    rw[pT]at hcr;refine⟨vs,hcr,?_⟩;simp only[ShB,hi,hd];refine⟨by rw[hcr.len,hlen],fun f hfm=>?_⟩;obtain⟨j,hj,_,hs⟩:=hvs f hfm;exact⟨j,hj,by simpa using hs⟩
   ·cases h
end
end
end
end Go.AM
namespace Go.Proofs.YtjogkbekekdkjaaGreatDoor
section
open Go Go.AM
theorem bulk_one{H:Type}(d:DataW H):1≤Rows.uptoBulk d:=by
 cases d with
 | lit l=>cases l<;>simp[Rows.uptoBulk]
 | nil=>simp[Rows.uptoBulk]
 | ptr d=>simp[Rows.uptoBulk]
 | slice a b=>simp[Rows.uptoBulk]
 | agg l=>simp[Rows.uptoBulk]
 | iface t d=>simp[Rows.uptoBulk]
 | map l=>simp[Rows.uptoBulk]
 | held h=>simp[Rows.uptoBulk]
theorem bulk_mem{H:Type}{d:DataW H} : ∀{l:List (DataW H)},d∈l→Rows.uptoBulk d≤Rows.uptoBulkAll l
 | [],h=>by cases h
 | x::r,h=>by
  rw[Rows.uptoBulkAll]
  rcases List.mem_cons.1 h with rfl | h
  ·omega
  ·have:=bulk_mem h;omega
theorem bulk_len{H:Type} : ∀l:List (DataW H),l.length≤Rows.uptoBulkAll l
 | []=>by simp
 | x::r=>by
  rw[Rows.uptoBulkAll,pk];have:=bulk_one x;have:=bulk_len r;omega
theorem bulk_ok{H:Type} : BulkOk (H:=H) Rows.uptoBulk where
 len es sp:=by rw[Rows.uptoBulk];have:=bulk_len es;omega
 elem es sp d h:=by rw[Rows.uptoBulk];have:=bulk_mem h;omega
 part ps d h:=by rw[Rows.uptoBulk];have:=bulk_mem h;omega
theorem bulk_le{H:Type}{l:List (DataW H)}(h:Rows.uptoSmall H l=true):Rows.uptoBulkAll l≤1048576:=of_decide_eq_true h
theorem kd{P:Program}{f:FuncId}{args:List V}{H:List B}{σ:Type}{ok:σ→Prop}{rf:σ→V}{Hf:σ→List B}(h:aZ P f args H fun r H'=>∃x,ok x∧r=rf x∧∃G,H'=Hf x++G)(hl:∀x,ok x→H.length≤(Hf x).length)(hr:∀x,ok x→rb (Hf x).length (rf x))(hb:∀x,ok x→∀bl∈Hf x,rbB (Hf x).length bl):aZ P f args H fun r H'=>∃x,ok x∧r=rf x∧H'=Hf x:=by
 refine⟨h.1,fun s vals h1 h2 h3 h4=>(h.2 s vals h1 h2 h3 h4).mono fun e w' ⟨u,s',r,a,b,c,d,e1,x,k1,k2,G,k3⟩=>?_⟩;subst k2;exact⟨u,s'.cut (Hf x),rf x,a,b,cut_good c k3 (hb x k1),oM c k3 (Step.refl _) s d (by rw[h1.1];exact hl x k1),cz k3 e1 (hr x k1),x,k1,rfl,rfl⟩
end
end Go.Proofs.YtjogkbekekdkjaaGreatDoor
section
namespace Go.Proofs.YtjogkbekekdkjaaGreatDoor
open Go Go.AM
end Go.Proofs.YtjogkbekekdkjaaGreatDoor
end
namespace Go.AM
section
open Go
section
section
variable {P:Program} {T:Ty}
theorem lS{ops:Array Oper}{fr:List V}{val val':Nat→V}{D:Nat→Bool}{t:Nat}(h:∀k,D k=true→val k=val' k):∀n,aw ops fr val D n t=aw ops fr val' D n t
 | 0=>rfl
 | n+1=>by
  simp only[aw];rw[lS h n];by_cases hD:D n=true
  ·rw[h n hD]
  ·rw[if_neg (fun hh=>hD hh.1),if_neg (fun hh=>hD hh.1)]
theorem drawN_sound(hT:TOk P T){ops:Array Oper}{J:Type}{E:J→List Nat}{val:J→Nat→V}{Hs:J→Nat→List B}{fr:List V}{s0:St}{Q:Exit→Act→World→Prop}(hz0:GOk P s0)
  (hst:dx ops []=true) (hE:∀j,∀e∈E j,e<ops.size) (hnd:∀j,(E j).Nodup) (hperm:∀j j' e,e∈E j'→e∈E j)
  (hsw:∀j c i,i∈(E j).drop c→(∀e∈(E j).drop c,e≠i→bef (aJ [] ops.toList) e i=false)→∃j',(E j').length=(E j).length∧(E j').take c=(E j).take c∧(E j')[c]?=some i∧Hs j' c=Hs j c∧∀k,(∀e∈(E j).drop c,k≠e∧bef (aJ [] ops.toList) e k=false)→val j' k=val j k)
  (hcl:∀j i o,ops[i]?=some o→jU T ops (aI P) (aJ [] ops.toList) (E j) (Hs j) o i (af ops fr (val j) i) (val j i))
  (hQ:∀j s a,Good s→Step s0 s→FRel s (af ops fr (val j) ops.size) a.tmps→a.defers=[]→s.H=Hs j (E j).length→Q .normal a s.w):
  ∀(fuel:Nat) (listed:Array Bool) (s:St) (a:Act) (j:J) (c:Nat),listed.size=ops.size→lM ops (fun i=>listed.getD i false)→
   ((pG ops.size).filter fun i=>!(listed.getD i false)).length≤fuel→c≤(E j).length→(∀k e,(E j)[k]?=some e→(listed.getD e false=true↔k<c))→
   Good s→Step s0 s→s.H=Hs j c→FRel s (cY ops fr (val j) fun i=>listed.getD i false) a.tmps→a.defers=[]→wpAny P .any ops Q fuel listed a s.w:=by
 simp only[dx,pC,pV,decide_eq_true_eq,qh]at hst;have hops:=hst.2
 have hback:∀(j:Nat) (o:Oper),ops[j]?=some o→∀e∈o.after.toList,Region.binds .any e=true→e.on<j:=fun j o ho e he hbd=>by
  have hj:=(Array.getElem?_eq_some_iff.1 ho).1;have:=hops j hj;rw[ho]at this;simp only[pC,pV]at this;have h1:=this.1.1 e he;rw[hbd]at h1;simpa using h1
 have htmp:∀(j i:Nat) (oj oi:Oper) (t:Nat),ops[j]?=some oj→ops[i]?=some oi→t∈cI ops oj→oi.dst=some t→i=j∨(i<j∧bef (aJ [] ops.toList) i j=true)∨(j<i∧bef (aJ [] ops.toList) j i=true):=fun j i oj oi t hoj hoi ht hd=>by
  have hj:=(Array.getElem?_eq_some_iff.1 hoj).1;have hi:=(Array.getElem?_eq_some_iff.1 hoi).1;have:=hops j hj;rw[hoj]at this;simp only[pC,pV]at this;have h2:=this.1.2 t ht i (by simpa using hi);rw[hoi]at h2;simp only[hd,pu,pC,decide_eq_true_eq,beq_iff_eq,pg,beq_eq_false_iff_ne,ne_eq,not_true_eq_false,false_or]at h2
  rcases h2 with(h | h) | h
  ·exact .inl h
  ·exact .inr (.inl h)
  ·exact .inr (.inr h)
 have hmask:∀(D:Nat→Bool),lM ops D→∀i j,j<ops.size→bef (aJ [] ops.toList) i j=true→D j=true→D i=true:=fun D hD i j hj hb hDj=>by
  obtain⟨ms,h1,h2,_⟩:=eB ops.toList [];rw[pU]at h1
  have hlen:(aJ [] ops.toList).length=ops.size:=by rw[h1,h2];simp
  have hm:(aJ [] ops.toList)[j]?=some ((aJ [] ops.toList)[j]'(by omega)):=ov (by omega);unfold bef at hb;rw[hm]at hb;exact mn hD hback j i _ hm hb hDj
 have fin:∀(listed:Array Bool) (s:St) (a:Act) (jj:J) (c:Nat),(∀i,i<ops.size→listed.getD i false=true)→c≤(E jj).length→(∀k e,(E jj)[k]?=some e→(listed.getD e false=true↔k<c))→Good s→Step s0 s→s.H=(Hs jj) c →
   FRel s (cY ops fr (val jj) fun i=>listed.getD i false) a.tmps→a.defers=[]→Q .normal a s.w:=fun listed s a jj c hall hc hpre hg hs hH hf hd=>by
  have hcE:c=(E jj).length:=by
   rcases px c (E jj).length with h | h
   ·have he:(E jj)[c]?=some (E jj)[c]:=ov h;have:=(hpre c _ he).1 (hall _ (hE jj _ (ow h)));omega
   ·omega
  subst hcE;refine hQ jj s a hg hs ?_ hd hH
  have:(cY ops fr (val jj) fun i=>listed.getD i false)=af ops fr (val jj) ops.size:=by
   apply qE;intro t;rw[dg,cu];refine iE (fun j hj _=>hall j hj) (fun j hj hdst=>?_) ops.size (pI _);rw[rP hj]at hdst;simp at hdst
  rwa [this]at hf
 have done:∀(listed:Array Bool),listed.size=ops.size→Region.ready .any ops listed=[]→∀i,i<ops.size→listed.getD i false=true:=fun listed hsz hr i=>by
  induction i using rV with
  | _ i ih =>
   intro hi
   cases hD:listed.getD i false with
   | true=>rfl
   | false =>
    exfalso
    have hmem:i∈Region.ready .any ops listed:=by
     unfold Region.ready;rw[qH]
     have ho:ops[i]?=some ops[i]:=by simp[hi]
     have hil:i<listed.size:=by omega
     refine⟨by simpa using hi,?_⟩;rw[ho];simp only[pm,qt,pC,pg];refine⟨by simp[re,hil]at hD ⊢;exact hD,?_⟩;rw[sF];intro e he;by_cases hbd:Region.binds .any e=true
     ·have hlt:=hback i _ ho e (by simpa using he) hbd;simp[ih e.on hlt (by omega)]
     ·simp[hbd]
    rw[hr]at hmem;simp at hmem
 intro fuel
 induction fuel with
 | zero =>
  intro listed s a jj c hsz hcl2 hcnt hc hpre hg hs hH hf hd
  have hall:∀i,i<ops.size→listed.getD i false=true:=fun i hi=>by
   cases hD:listed.getD i false with
   | true=>rfl
   | false =>
    exfalso
    have:i∈(pG ops.size).filter fun i=>!(listed.getD i false):=by rw[qH];exact⟨by simpa using hi,by simp only[hD];rfl⟩
    have h0:((pG ops.size).filter fun i=>!(listed.getD i false))=[]:=qN (by omega);rw[h0]at this;simp at this
  refine⟨?_,fin listed s a jj c hall hc hpre hg hs hH hf hd⟩;unfold Region.ready;rw[List.filter_eq_nil_iff];intro i hi
  have hil:i<listed.size:=by rw[hsz];simpa using hi
  have:=hall i (by simpa using hi)
  have h1:listed.getD i true=true:=by simpa[re,hil] using this
  simp[h1]
 | succ fuel ih =>
  intro listed s a jj c hsz hcl2 hcnt hc hpre hg hs hH hf hd;refine⟨fun hr=>fin listed s a jj c (done listed hsz hr) hc hpre hg hs hH hf hd,fun i hi=>?_⟩;unfold Region.ready at hi;rw[qH]at hi;obtain⟨hin,hcond⟩:=hi
  have hin:i<ops.size:=by simpa using hin
  have hil:i<listed.size:=by omega
  have ho:ops[i]?=some ops[i]:=by simp[hin]
  generalize ops[i]=o at ho;rw[ho]at hcond;simp only[pm,qt,pC,pg]at hcond;obtain⟨hDi,hedge⟩:=hcond
  have hDi:listed.getD i false=false:=by simp only[re,hil,dif_pos]at hDi ⊢;exact hDi
  rw[sF]at hedge
  have hD':∀j,(listed.setIfInBounds i true).getD j false=if j=i then true else listed.getD j false:=fun j=>by
   by_cases hj:j=i
   ·subst hj;simp[re,hil]
   ·rw[if_neg hj,qR,qR,rG (Ne.symm hj)]
  have hclosed':lM ops (fun j=>(listed.setIfInBounds i true).getD j false):=fun j oj hoj hj e he hb=>by
   simp only[hD']at hj ⊢;by_cases hji:j=i
   ·subst hji;rw[ho]at hoj;cases hoj;have:=hedge e (by simpa using he);rw[hb]at this;simp at this;split
    ·rfl
    ·simpa using this
   ·rw[if_neg hji]at hj;split
    ·rfl
    ·exact hcl2 j oj hoj hj e he hb
  have before:∀j,j≠i→bef (aJ [] ops.toList) j i=true→listed.getD j false=true:=fun j hji hb=>by
   have:=hmask _ hclosed' j i hin hb (by simp[hD']);simp only[hD',if_neg hji]at this;exact this
  have behind:∀j,j<ops.size→bef (aJ [] ops.toList) i j=true→listed.getD j false=false:=fun j hj hb=>by
   cases hDj:listed.getD j false with
   | false=>rfl
   | true=>have:=hmask _ hcl2 i j hj hb hDj;rw[hDi]at this;cases this
  have hsel:∃j',(E j').length=(E jj).length∧(∀k e,(E j')[k]?=some e→(listed.getD e false=true↔k<c))∧s.H=Hs j' c∧FRel s (cY ops fr (val j') fun i=>listed.getD i false) a.tmps∧(i∈E j'→(E j')[c]?=some i):=by
   by_cases hiE:i∈E jj
   ·obtain⟨ki,hki⟩:=qr hiE
    have hkc:c≤ki:=by
     rcases px ki c with h | h
     ·have:=(hpre ki i hki).2 h;rw[hDi]at this;cases this
     ·exact h
    have hin':i∈(E jj).drop c:=oz (i:=ki-c) (by rw[qG,Nat.add_sub_cancel' hkc];exact hki)
    have notl:∀e∈(E jj).drop c,listed.getD e false=false:=fun e he=>by
     obtain⟨k,hk⟩:=qr he;rw[qG]at hk
     cases hD:listed.getD e false with
     | false=>rfl
     | true=>have:=(hpre _ e hk).1 hD;omega
    obtain⟨j',h1,h2,h3,h4,h5⟩:=hsw jj c i hin' (fun e he hne=>by
     cases hb:bef (aJ [] ops.toList) e i with
     | false=>rfl
     | true=>have:=before e hne hb;rw[notl e he]at this;cases this)
    refine⟨j',h1,fun k e hk=>?_,hH.trans h4.symm,?_,fun _=>h3⟩
    ·rcases px k c with hkc | hkc
     ·have hk2:(E jj)[k]?=some e:=by
       have e1:((E j').take c)[k]?=some e:=by rw[po,if_pos hkc];exact hk
       rw[h2,po,if_pos hkc]at e1;exact e1
      exact hpre k e hk2
     ·constructor
      ·intro hD;exfalso;have hmem:e∈E jj:=hperm jj j' e (oz hk);obtain⟨k2,hk2⟩:=qr hmem;have hlt:=(hpre k2 e hk2).1 hD
       have e1:((E jj).take c)[k2]?=some e:=by rw[po,if_pos hlt];exact hk2
       rw[←h2,po,if_pos hlt]at e1;have hk2l:=aB e1;have hkl:=aB hk
       have e2:(E j')[k2]=e:=by rw[ov hk2l]at e1;exact Option.some.inj e1
       have e3:(E j')[k]=e:=by rw[ov hkl]at hk;exact Option.some.inj hk
       have:=(List.getElem_inj (hnd j')).1 (e2.trans e3.symm);omega
      ·intro h;omega
    ·have hv:(cY ops fr (val j') fun i=>listed.getD i false)=(cY ops fr (val jj) fun i=>listed.getD i false):=by
      apply qE;intro t;rw[dg,dg];refine lS (fun k hk=>?_) _
      refine h5 k fun e he=>⟨fun h=>?_,?_⟩
      ·subst h;rw[notl _ he]at hk;cases hk
      ·cases hb:bef (aJ [] ops.toList) e k with
       | false=>rfl
       | true =>
        have hkl:k<ops.size:=by
         rcases px k ops.size with h | h
         ·exact h
         ·rw[qR,rP (by omega)]at hk;cases hk
        have:=hmask _ hcl2 e k hkl hb hk;rw[notl e he]at this;cases this
     rw[hv];exact hf
   ·exact⟨jj,rfl,hpre,hH,hf,fun h=>absurd h hiE⟩
  obtain⟨j',hj1,hj2,hj3,hj4,hj5⟩:=hsel;rw[←hj1]at hc;clear hpre hH hf;have hpre:=hj2;have hH:=hj3;have hf:=hj4;clear hj2 hj3 hj4 hj1;clear jj
  rename J=>jj
  have meets:∀t,t∈cI ops o→(∀j,j<i→(ops[j]?).bind (·.dst)=some t→listed.getD j false=true)∧(∀j,i<j→(ops[j]?).bind (·.dst)=some t→listed.getD j false=false):=fun t ht=>by
   refine⟨fun j hj hdst=>?_,fun j hj hdst=>?_⟩
   ·cases hoj:ops[j]? with
    | none=>rw[hoj]at hdst;simp at hdst
    | some oj =>
     rw[hoj]at hdst
     rcases htmp i j o oj t ho hoj ht (by simpa using hdst) with h | h | h
     ·omega
     ·exact before j (by omega) h.2
     ·omega
   ·cases hoj:ops[j]? with
    | none=>rw[hoj]at hdst;simp at hdst
    | some oj =>
     rw[hoj]at hdst
     rcases htmp i j o oj t ho hoj ht (by simpa using hdst) with h | h | h
     ·omega
     ·omega
     ·exact behind j (Array.getElem?_eq_some_iff.1 hoj).1 h.2
  have agree:∀t,t∈cI ops o→(cY ops fr (val jj) fun i=>listed.getD i false)[t]?=(af ops fr (val jj) i)[t]?:=fun t ht=>by
   rw[dg,cu];refine iE (meets t ht).1 (fun j hj hdst=>?_) ops.size (by omega);by_cases hji:j=i
   ·subst hji;exact hDi
   ·exact(meets t ht).2 j (by omega) hdst
  have hop:∀x∈o.op.operands,aD (cY ops fr (val jj) fun i=>listed.getD i false) x=aD (af ops fr (val jj) i) x:=fun x hx=>by
   refine mq fun t e=>agree t ?_
   subst e;simp only[cI,Oper.looksAt,pz,List.mem_filterMap];exact .inl (.inl ⟨.tmp t,by simpa using hx,rfl⟩)
  have hwant:ak ops (cY ops fr (val jj) fun i=>listed.getD i false) o=ak ops (af ops fr (val jj) i) o:=by
   unfold ak
   cases hgd:o.guard with
   | none=>rfl
   | some g =>
    obtain⟨j,want⟩:=g;simp only
    cases hoj:ops[j]? with
    | none=>rfl
    | some oj =>
     simp only
     cases hdj:oj.dst with
     | none=>rfl
     | some d =>
      simp only;rw[agree d (by simp[cI,Oper.looksAt,hgd,hoj,hdj])]
  have next:∀{s1:St} {u:Value} {c':Nat},Good s1→Step s s1→Rel s1 ((val jj) i) u→c'≤(E jj).length→s1.H=(Hs jj) c'→(∀k e,(E jj)[k]?=some e→((listed.setIfInBounds i true).getD e false=true↔k<c'))→
    wpAny P .any ops Q fuel (listed.setIfInBounds i true) (a.put o.dst u) s1.w:=fun {s1 u c'} g1 g2 g3 g4 g5 g6=>by
   refine ih _ s1 _ jj c' (by simp[hsz]) hclosed' ?_ g4 g6 g1 (hs.trans g2) g5 ?_ (by rw[ft];exact hd)
   ·have:=fJ (p:=fun j=>!(listed.getD j false)) (q:=fun j=>!((listed.setIfInBounds i true).getD j false)) (i:=i) (by simp only[hDi];rfl) (by simp[hD']) (fun j hj=>by
     simp only[hD']at hj;split at hj
     ·simp at hj
     ·exact hj) (l:=pG ops.size) (by simpa using hin)
    omega
   ·have hnow:(cY ops fr (val jj) fun j=>(listed.setIfInBounds i true).getD j false)=ae (cY ops fr (val jj) fun j=>listed.getD j false) o.dst ((val jj) i):=by
     apply qE;intro t;rw[dg]
     cases hdst:(o.dst:Option Nat) with
     | none =>
      simp only[ae];rw[dg];refine cn (fun j hj=>?_) _;simp only[hD'];split
      ·rename_i hji;subst hji;rw[ho]at hj;simp[hdst]at hj
      ·rfl
     | some d =>
      simp only[ae]
      have hlen:(cY ops fr (val jj) fun j=>listed.getD j false).length=fr.length:=by simp[cY]
      by_cases hdt:d=t
      ·subst hdt;have hm:=meets d (by simp[cI,hdst])
       have e1:=iE (fr:=fr) (val:=val jj) (D:=fun j=>(listed.setIfInBounds i true).getD j false) (i:=i+1) (t:=d) (fun j hj hdj=>by
        simp only[hD'];split
        ·rfl
        ·exact hm.1 j (by omega) hdj) (fun j hj hdj=>by
        simp only[hD'];rw[if_neg (by omega)]
        exact hm.2 j (by omega) hdj) ops.size (by omega)
       rw[e1];simp only[aw];by_cases hlt:d<fr.length
       ·rw[if_pos ⟨trivial,by rw[ho];simpa using hdst,hlt⟩,pO (by rw[hlen];exact hlt)]
       ·rw[if_neg (by simp[hlt]),sH,if_pos rfl,if_neg (by rw[hlen];exact hlt)];have:=dL (ops:=ops) (fr:=fr) (val:=val jj) (D:=fun _=>true) i d
        cases h:aw ops fr (val jj) (fun _=>true) i d with
        | none=>rfl
        | some v=>rw[h]at this;simp[hlt]at this
      ·rw[pR hdt,dg];refine cn (fun j hj=>?_) _;simp only[hD'];split
       ·rename_i hji;subst hji;rw[ho]at hj;simp[hdst]at hj;exact absurd hj hdt
       ·rfl
    rw[hnow];exact(hf.step g2).put g3 o.dst
  have sameE:i∉(E jj)→∀k e,(E jj)[k]?=some e→((listed.setIfInBounds i true).getD e false=true↔k<c):=fun hiE k e he=>by
   rw[hD',if_neg (fun h:e=i=>hiE (by rw[←h];exact oz he))];exact hpre k e he
  have hpos:i∉(E jj)→eA (aJ [] ops.toList) (E jj) i c=true:=fun hiE=>by
   simp only[eA,pV,qh];intro k hk;have he:(E jj)[k]?=some (E jj)[k]:=ov hk;rw[he];simp only;split
   ·rename_i hkc;have hD:=(hpre k _ he).2 hkc
    cases hb:bef (aJ [] ops.toList) i (E jj)[k] with
    | false=>rfl
    | true=>have:=behind _ (hE jj _ (ow hk)) hb;rw[hD]at this;cases this
   ·rename_i hkc
    cases hb:bef (aJ [] ops.toList) (E jj)[k] i with
    | false=>rfl
    | true =>
     have:=before _ (fun h=>hiE (h▸ow hk)) hb;exact absurd ((hpre k _ he).1 this) hkc
  have eff:i∈E jj→(E jj).idxOf i=c∧(∀k' e,(E jj)[k']?=some e→((listed.setIfInBounds i true).getD e false=true↔k'<c+1))∧c+1≤(E jj).length:=fun hiE=>by
   have hk:=hj5 hiE;have hkl:=aB hk
   have hidx:(E jj).idxOf i=c:=by
    have h1:=List.idxOf_lt_length_of_mem hiE
    have h2:(E jj)[(E jj).idxOf i]=i:=by simp
    have h3:(E jj)[c]=i:=by rw[ov hkl]at hk;exact Option.some.inj hk
    exact(List.getElem_inj (hnd jj)).1 (h2.trans h3.symm)
   refine⟨hidx,fun k' e he=>?_,by omega⟩;rw[hD'];by_cases hei:e=i
   ·subst hei;have hkl':=aB he
    have h2:(E jj)[k']=e:=by rw[ov hkl']at he;exact Option.some.inj he
    have h3:(E jj)[c]=e:=by rw[ov hkl]at hk;exact Option.some.inj hk
    have:=(List.getElem_inj (hnd jj)).1 (h2.trans h3.symm);simp;omega
   ·rw[if_neg hei,hpre k' e he];constructor
    ·omega
    ·intro h
     rcases px k' c with h' | h'
     ·exact h'
     ·exfalso
      have hk'c:k'=c:=by omega
      subst hk'c;rw[hk]at he;cases he;exact hei rfl
  have hclause:=hcl jj i o ho;unfold jU at hclause;rw[←hwant]at hclause;unfold wpOp;rw[ho];simp only;split at hclause
  ·
   rename_i hw;rw[ig hf hw];simp only[pQ,if_false]
   have hiE:i∉(E jj):=by simpa using hclause.2
   exact next hg (Step.refl s) (by rw[hclause.1];exact .tup [] #[] rfl (by simp)) hc hH (sameE hiE)
  ·rename_i hw;rw[ig hf hw];simp only[if_true];left;split at hclause
   ·
    rename_i f args hcall
    have hin2:f∈o.op.operands∧∀x∈args,x∈o.op.operands:=by
     unfold aY at hcall;split at hcall
     ·rename_i cc hoc;split at hcall
      ·rename_i f' hcal;cases hcall;rw[hoc];simp only[Op.operands,Call.operands,hcal];exact⟨by simp,fun x hx=>by simp;exact .inr (by simpa using hx)⟩
      ·cases hcall
     ·cases hcall
    have hf1:aD (af ops fr (val jj) i) f=aD (cY ops fr (val jj) fun i=>listed.getD i false) f:=(hop f hin2.1).symm
    have hf2:args.map (aD (af ops fr (val jj) i))=args.map (aD (cY ops fr (val jj) fun i=>listed.getD i false)):=rE fun x hx=>(hop x (hin2.2 x hx)).symm
    split at hclause
    ·rename_i hEi
     have hiE:i∈(E jj):=by simpa using hEi
     obtain⟨hidx,hpre',hcE⟩:=eff hiE;have hcc:=hclause;rw[hidx,←hH]at hcc;rw[hf1,hf2]at hcc;refine eG hcall (hz0.step hs) hg hf hcc (fun u s1 r g1 g2 g3 g4=>?_);obtain⟨rfl,g5⟩:=g4;exact next g1 g2 g3 hcE g5 hpre'
    ·rename_i hEi
     have hiE:i∉(E jj):=by simpa using hEi
     have hcc:=dp hclause c (by simp;omega);rw[if_pos (hpos hiE),←hH]at hcc;rw[hf1,hf2]at hcc;refine eG hcall (hz0.step hs) hg hf hcc (fun u s1 r g1 g2 g3 g4=>?_);obtain⟨rfl,g5⟩:=g4;exact next g1 g2 g3 hc (g5.trans hH) (sameE hiE)
   ·split at hclause
    ·
     rename_i hEi
     have hiE:i∈(E jj):=by simpa using hEi
     obtain⟨hidx,hpre',hcE⟩:=eff hiE;rw[hidx,←kn (ρ:=aD (cY ops fr (val jj) fun i=>listed.getD i false)) hop,←hH]at hclause;obtain⟨nx,s1,k1,k2,k3,k4,k5⟩:=fC (P:=P) hT hg (fun x=>hf.eval x) hclause;unfold Oper.wp;rw[k1]
     rcases k5 with⟨u,rfl,hr⟩ | ⟨rfl,hv⟩
     ·rw[Oper.upon_value];exact next k3 k4 hr hcE k2 hpre'
     ·rw[Oper.upon_skip];exact next k3 k4 (by rw[hv];exact .tup [] #[] rfl (by simp)) hcE k2 hpre'
    ·rename_i hEi
     have hiE:i∉(E jj):=by simpa using hEi
     have hcc:=dp hclause c (by simp;omega);rw[if_pos (hpos hiE),←kn (ρ:=aD (cY ops fr (val jj) fun i=>listed.getD i false)) hop,←hH]at hcc;obtain⟨nx,s1,k1,k2,k3,k4,k5⟩:=fC (P:=P) hT hg (fun x=>hf.eval x) hcc;unfold Oper.wp;rw[k1]
     rcases k5 with⟨u,rfl,hr⟩ | ⟨rfl,hv⟩
     ·rw[Oper.upon_value];exact next k3 k4 hr hc (k2.trans hH) (sameE hiE)
     ·rw[Oper.upon_skip];exact next k3 k4 (by rw[hv];exact .tup [] #[] rfl (by simp)) hc (k2.trans hH) (sameE hiE)
  ·exact hclause.elim
end
def li(T:Ty)(ops:Array Oper)(C:V→List V→List B→(V→List B→Prop)→Prop)(E:List Nat)(tab:List (Nat×List Nat))(Hs:Nat→List B):List Oper→Nat→List V→List V→(List V→List V→Prop)→Prop
 | [],_,fr,_,F=>F fr []
 | o::rest,i,fr,cv,F =>
  match ak ops fr o with
  | some false=>E.contains i=false∧li T ops C E tab Hs rest (i+1) (ae fr o.dst (.tup [])) cv (fun g vs=>F g (.tup []::vs))
  | some true=>match aY o.op with
   | some (f,args)=>match cv with
    | []=>False
    | v::cv'=>(if E.contains i then C (aD fr f) (args.map (aD fr)) (Hs (E.idxOf i)) (fun r H'=>r=v∧H'=Hs (E.idxOf i+1))
      else cG (fun c=>C (aD fr f) (args.map (aD fr)) (Hs c) (fun r H'=>r=v∧H'=Hs c)) (dK tab i))∧li T ops C E tab Hs rest (i+1) (ae fr o.dst v) cv' (fun g vs=>F g (v::vs))
   | none=>if E.contains i then
     (match aop T o.op (aD fr) (Hs (E.idxOf i)) with
      | some (v,H')=>H'=Hs (E.idxOf i+1)∧li T ops C E tab Hs rest (i+1) (ae fr o.dst v) cv (fun g vs=>F g (v::vs))
      | none=>False)
     else(match aop T o.op (aD fr) (Hs ((dK tab i).headD 0)) with
      | some (v,H')=>(if cM o.op then True else cG (fun c=>aop T o.op (aD fr) (Hs c)=some (v,Hs c)) (dK tab i))∧li T ops C E tab Hs rest (i+1) (ae fr o.dst v) cv (fun g vs=>F g (v::vs))
      | none=>False)
  | none=>False
structure Ord where
 E:List Nat
 hs:List (List B)
 vs:List V
 g:List V
def oA(H:List B)(d:Ord)(c:Nat):List B:=((H::d.hs)[c]?).getD []
def cplN:List Nat→List Nat→Nat
 | x::r,y::s=>if x=y then cplN r s+1 else 0
 | _,_=>0
def crossO(H:List B)(cmp:List (Nat×List Nat))(d e:Ord):Prop:=oA H d (cplN d.E e.E)=oA H e (cplN d.E e.E)∧cG (fun k=>d.vs[k]?=e.vs[k]?) (dK cmp (cplN d.E e.E))
def kO(H:List B)(cmp:List (Nat×List Nat))(d:Ord):List Ord→Prop
 | []=>True
 | e::r=>crossO H cmp d e∧kO H cmp d r
def kP(H:List B)(cmp:List (Nat×List Nat))(all:List Ord):List Ord→Prop
 | []=>True
 | d::r=>kO H cmp d all∧kP H cmp all r
def allK(H:List B)(K:List V→List B→Prop):List Ord→Prop
 | []=>True
 | d::r=>K d.g (oA H d d.E.length)∧allK H K r
def oblNs(T:Ty)(ops:Array Oper)(C:V→List V→List B→(V→List B→Prop)→Prop)(K:List V→List B→Prop)(cmp:List (Nat×List Nat))(fr:List V)(H:List B):List (List Nat×List (Nat×List Nat)×List (List B)×List V)→List Ord→Prop
 | [],done=>kP H cmp done done∧allK H K done
 | (E,tab,hs,cv)::r,done=>li T ops C E tab (fun c=>((H::hs)[c]?).getD []) ops.toList 0 fr cv (fun g vs=>oblNs T ops C K cmp fr H r (done++[⟨E,hs,vs,g⟩]))
def statN(ops:Array Oper)(Es:List (List Nat×List (Nat×List Nat)))(cmp:List (Nat×List Nat)):Bool :=
 let ms:=aJ [] ops.toList
 dx ops []&&(!Es.isEmpty&&Es.all fun p=>decide p.1.Nodup&&(p.1.all (fun e=>decide (e<ops.size))&&(Es.all (fun q=>q.1.length == p.1.length&&p.1.all fun e=>q.1.contains e) &&
  ((pG ops.size).all (fun i=>p.1.contains i||(match ops[i]? with
    | some o=>((aY o.op).isNone&&cM o.op)||(pG (p.1.length+1)).all fun c=>!eA ms p.1 i c||(dK p.2 i).contains c
    | none=>true)) &&
  ((pG (p.1.length+1)).all fun c=>(p.1.drop c).all (fun i=>(!((p.1.drop c).all fun e=>e == i||!bef ms e i))||Es.any fun q=>q.1.take c == p.1.take c&&q.1[c]? == some i) &&
   (pG ops.size).all fun k=>(p.1.drop c).contains k||((p.1.drop c).any fun e=>bef ms e k)||(dK cmp c).contains k)))))
section
variable {P:Program} {T:Ty}
def OkO(T:Ty)(ops:Array Oper)(C:V→List V→List B→(V→List B→Prop)→Prop)(fr:List V)(H:List B)(d:Ord):Prop :=
 d.vs.length=ops.size∧bW T ops C (aJ [] ops.toList) d.E (oA H d) ops.toList 0 fr d.vs∧∀(val:Nat→V),(∀k,k<d.vs.length→d.vs[k]?=some (val k))→d.g=af ops fr val ops.size
theorem oblN1_ok{ops:Array Oper}{C:V→List V→List B→(V→List B→Prop)→Prop}{E:List Nat}{tab:List (Nat×List Nat)}{Hs:Nat→List B}
  (hst:∀i o,ops[i]?=some o→E.contains i=false→(aY o.op=none∧cM o.op=true)∨∀c,c<E.length+1→eA (aJ [] ops.toList) E i c=true→c∈dK tab i):
  ∀(l:List Oper) (i:Nat) (fr cv:List V) (F:List V→List V→Prop),l=ops.toList.drop i→li T ops C E tab Hs l i fr cv F →
   ∃vs g,vs.length=l.length∧bW T ops C (aJ [] ops.toList) E Hs l i fr vs∧(∀(val:Nat→V) (fr0:List V),(∀k,k<vs.length→vs[k]?=some (val (i+k)))→fr=af ops fr0 val i→g=af ops fr0 val ops.size)∧F g vs
 | [],i,fr,cv,F,hl,h=>by
  have hi:ops.size≤i:=by
   have:=congrArg List.length hl;simp at this;omega
  have hfr:∀(val:Nat→V) (fr0:List V),∀d,af ops fr0 val (ops.size+d)=af ops fr0 val ops.size:=fun val fr0 d=>by
   induction d with
   | zero=>rfl
   | succ d ih =>
    rw[show ops.size+(d+1)=(ops.size+d)+1 by omega,af,rP (by omega)];exact ih
  obtain⟨d,rfl⟩:=Nat.exists_eq_add_of_le hi;exact⟨[],fr,rfl,trivial,fun val fr0 _ h=>by rw[h,hfr],h⟩
 | o::rest,i,fr,cv,F,hl,h=>by
  have ho:ops[i]?=some o:=by
   have:=congrArg (fun l=>l[0]?) hl;simp at this;exact this.symm
  have hrest:rest=ops.toList.drop (i+1):=by
   have:=congrArg sU hl;simpa using this
  have fin:∀(v:V) (cv':List V),jU T ops C (aJ [] ops.toList) E Hs o i fr v→li T ops C E tab Hs rest (i+1) (ae fr o.dst v) cv' (fun g vs=>F g (v::vs))→
    ∃vs g,vs.length=(o::rest).length∧bW T ops C (aJ [] ops.toList) E Hs (o::rest) i fr vs∧(∀(val:Nat→V) (fr0:List V),(∀k,k<vs.length→vs[k]?=some (val (i+k)))→fr=af ops fr0 val i→g=af ops fr0 val ops.size)∧F g vs:=fun v cv' c1 hr=>by
   obtain⟨vs,g,a1,a2,a3,a4⟩:=oblN1_ok hst rest (i+1) _ _ _ hrest hr;refine⟨v::vs,g,by simp[a1],⟨c1,a2⟩,fun val fr0 hv hf=>?_,a4⟩
   have hv0:v=val i:=by have:=hv 0 (by simp);simpa using this
   refine a3 val fr0 (fun k hk=>?_) ?_
   ·have:=hv (k+1) (by simp;omega);rw[qg]at this;rw[this,show i+(k+1)=i+1+k by omega]
   ·rw[af,ho,hv0,hf]
  unfold li at h;split at h
  ·rename_i hw;exact fin _ _ (by unfold jU;rw[hw];exact⟨rfl,h.1⟩) h.2
  ·rename_i hw;split at h
   ·rename_i f args hc;split at h
    ·exact h.elim
    ·rename_i v cv';refine fin v cv' ?_ h.2;unfold jU;simp only[hw,hc];split
     ·rename_i hE;have:=h.1;rw[if_pos hE]at this;exact this
     ·rename_i hE;have hq:=h.1;rw[if_neg hE]at hq
      refine fX.allC_of fun c hcm=>?_
      split
      ·rename_i hp
       rcases hst i o ho (by simpa using hE) with hs | hs
       ·rw[hs.1]at hc;cases hc
       ·exact dp hq c (hs c (by simpa using hcm) hp)
      ·trivial
   ·rename_i hc;split at h
    ·rename_i hE;split at h
     ·rename_i v H' hq;obtain⟨rfl,hr⟩:=h;refine fin v cv ?_ hr;unfold jU;simp only[hw,hc,hE,if_true];exact hq
     ·exact h.elim
    ·rename_i hE;split at h
     ·rename_i v H' hq;obtain⟨hq2,hr⟩:=h;refine fin v cv ?_ hr;unfold jU;simp only[hw,hc];rw[if_neg hE]
      refine fX.allC_of fun c hcm=>?_
      split
      ·rename_i hp;by_cases hsc:cM o.op=true
       ·exact mQ hsc hq _
       ·rw[if_neg hsc]at hq2
        rcases hst i o ho (by simpa using hE) with hs | hs
        ·exact absurd hs.2 hsc
        ·exact dp hq2 c (hs c (by simpa using hcm) hp)
      ·trivial
     ·exact h.elim
  ·exact h.elim
theorem oblNs_ok{ops:Array Oper}{C:V→List V→List B→(V→List B→Prop)→Prop}{K:List V→List B→Prop}{cmp:List (Nat×List Nat)}{fr:List V}{H:List B} :
  ∀(l:List (List Nat×List (Nat×List Nat)×List (List B)×List V)) (done:List Ord),(∀p∈l,∀i o,ops[i]?=some o→p.1.contains i=false→(aY o.op=none∧cM o.op=true)∨∀c,c<p.1.length+1→eA (aJ [] ops.toList) p.1 i c=true→c∈dK p.2.1 i)→
   (∀d∈done,OkO T ops C fr H d)→oblNs T ops C K cmp fr H l done→∃all:List Ord,all.map (·.E)=done.map (·.E)++l.map (·.1)∧(∀d∈all,OkO T ops C fr H d)∧kP H cmp all all∧allK H K all
 | [],done,_,hd,h=>⟨done,by simp,hd,h.1,h.2⟩
 | (E,tab,hs,cv)::r,done,hl,hd,h=>by
  rw[oblNs]at h;obtain⟨vs,g,a1,a2,a3,a4⟩:=oblN1_ok (hl (E,tab,hs,cv) (pW ..)) ops.toList 0 fr cv _ (by simp) h
  obtain⟨all,b1,b2,b3,b4⟩:=oblNs_ok r (done++[⟨E,hs,vs,g⟩]) (fun p hp=>hl p (pZ _ hp)) (fun d hm=>by
   rcases List.mem_append.1 hm with hm | hm
   ·exact hd d hm
   ·rw[pe]at hm;subst hm
    refine⟨by simpa using a1,a2,fun val hv=>a3 val fr (fun k hk=>by rw[qM];exact hv k hk) rfl⟩) a4
  exact⟨all,by rw[b1];simp,b2,b3,b4⟩
theorem mt{H:List B}{cmp:List (Nat×List Nat)}{d:Ord} : ∀{l:List Ord},kO H cmp d l→∀e∈l,crossO H cmp d e
 | e::r,h,x,hx=>(List.mem_cons.1 hx).elim (fun q=>q▸h.1) (mt h.2 x)
theorem mu{H:List B}{cmp:List (Nat×List Nat)}{all:List Ord} : ∀{l:List Ord},kP H cmp all l→∀d∈l,kO H cmp d all
 | e::r,h,x,hx=>(List.mem_cons.1 hx).elim (fun q=>q▸h.1) (mu h.2 x)
theorem allK_at{H:List B}{K:List V→List B→Prop} : ∀{l:List Ord},allK H K l→∀d∈l,K d.g (oA H d d.E.length)
 | e::r,h,x,hx=>(List.mem_cons.1 hx).elim (fun q=>q▸h.1) (allK_at h.2 x)
theorem cpl_at:∀{a b:List Nat} {c i:Nat},a.take c=b.take c→b[c]?=some i→i∈a.drop c→a[c]?≠some i→cplN a b=c
 | [],b,c,i,h1,h2,h3,h4=>by simp at h3
 | x::r,[],c,i,h1,h2,h3,h4=>by simp at h2
 | x::r,y::s,0,i,h1,h2,h3,h4=>by
  simp at h2 h4;rw[cplN,if_neg (by omega)]
 | x::r,y::s,c+1,i,h1,h2,h3,h4=>by
  simp at h1 h2 h3 h4;rw[cplN,if_pos h1.1,cpl_at h1.2 h2 h3 h4]
theorem W_drawN(hT:TOk P T)(hm:P.follows .mixedOrders=true){id:Nat}{ops:Array Oper}{Q:Exit→List V→List B→Prop}{fr:List V}{H:List B}(L:List (List Nat×List (Nat×List Nat)×List (List B)×List V))(cmp:List (Nat×List Nat))(S:List (List Nat×List (Nat×List Nat)))(hS:(L.map fun p=>(p.1,p.2.1))=S)(hst:statN ops S cmp=true)
  (h:∀(C:V→List V→List B→(V→List B→Prop)→Prop) (K:List V→List B→Prop),(∀f args H K,aI P f args H K→C f args H K)→(∀fr H,Q .normal fr H→K fr H)→oblNs T ops C K cmp fr H L []):W P (.region id ops true) Q fr H:=by
 intro s a hH hg hf hd;obtain⟨rfl,hz0⟩:=hH;subst hS;have hob:=h (aI P) (Q .normal) (fun _ _ _ _ h=>h) (fun _ _ h=>h);simp only[statN,List.all_map,List.any_map,Function.comp_def,pC,pg,pV,decide_eq_true_eq,pu,beq_iff_eq,qh,rY]at hst;obtain⟨t1,t2,t3⟩:=hst
 obtain⟨all,b1,b2,b3,b4⟩:=oblNs_ok (T:=T) (C:=aI P) L [] (fun p hp i o ho hE=>by
  have q:=(t3 p hp).2.2.2.1 i (Array.getElem?_eq_some_iff.1 ho).1
  rcases q with q | q
  ·rw[hE]at q;cases q
  ·rw[ho]at q;simp only[pu,pC,Option.isNone_iff_eq_none,pV,qh,pg]at q
   rcases q with q | q
   ·exact .inl q
   ·refine .inr fun c hc hp=>?_
    rcases q c hc with q | q
    ·rw[hp]at q;cases q
    ·exact List.contains_iff_mem.1 q) (by simp) hob
 rw[rQ,pU]at b1
 have hin:∀d∈all,∃p∈L,p.1=d.E:=fun d hd=>by
  have:d.E∈L.map (·.1):=by rw[←b1];exact List.mem_map.2 ⟨d,hd,rfl⟩
  exact List.mem_map.1 this
 have hout:∀p∈L,∃d∈all,d.E=p.1:=fun p hp=>by
  have:p.1∈all.map (·.E):=by rw[b1];exact List.mem_map.2 ⟨p,hp,rfl⟩
  exact List.mem_map.1 this
 have hlenE:∀d∈all,∀e∈all,d.E.length=e.E.length:=fun d hd e he=>by
  obtain⟨p,hp,e1⟩:=hin d hd;obtain⟨q,hq,e2⟩:=hin e he;rw[←e1,←e2];exact((t3 q hq).2.2.1 p hp).1
 obtain⟨d0,hd0⟩:∃d0,d0∈all:=by
  cases L with
  | nil=>simp at t2
  | cons p r=>obtain⟨d,hd,_⟩:=hout p (by simp);exact⟨d,hd⟩
 let val:{d:Ord // d∈all}→Nat→V:=fun d i=>((d.1.vs)[i]?).getD .undef
 have hv:∀(d:{d:Ord // d∈all}) k,k<d.1.vs.length→d.1.vs[k]?=some (val d k):=fun d k hk=>by simp[val,hk]
 refine wp_region_any hm ?_;obtain⟨d1,d2⟩:=dY hg (w:={ s.w with drawn:=s.w.drawn+1 }) rfl rfl rfl (pI _) (fun _ _=>rfl)
 have hget:∀j,(rj ops.size false).getD j false=false:=fun j=>by
  rw[qR,Array.getElem?_replicate];split<;>rfl
 have hnow:cY ops fr (val ⟨d0,hd0⟩) (fun i=>(rj ops.size false).getD i false)=fr:=by
  apply qE;intro t;rw[dg];exact iE (i:=0) (fun j hj=>absurd hj (by omega)) (fun j _ _=>hget j) ops.size (pv _)
 refine drawN_sound hT hz0 (s0:=s) (J:={d:Ord // d∈all}) (E:=fun d=>d.1.E) (val:=val) (Hs:=fun d=>oA s.H d.1) t1 ?_ ?_ ?_ ?_ ?_ ?_ ops.size _ (s.at _) a ⟨d0,hd0⟩ 0 (by simp) (fun j o _ hj=>by simp only[hget]at hj;cases hj) ?_ (pv _) (fun k e _=>by rw[hget];simp) d1 d2 rfl (by rw[hnow];exact hf.step d2) hd
 ·intro d e he;obtain⟨p,hp,e1⟩:=hin d.1 d.2;exact(t3 p hp).2.1 e (by rw[e1];exact he)
 ·intro d;obtain⟨p,hp,e1⟩:=hin d.1 d.2;have:=(t3 p hp).1;rw[e1]at this;exact this
 ·intro d d' e he;obtain⟨p,hp,e1⟩:=hin d'.1 d'.2;obtain⟨q,hq,e2⟩:=hin d.1 d.2;have:=((t3 p hp).2.2.1 q hq).2 e (by rw[e1];exact he);rw[e2]at this;exact List.contains_iff_mem.1 this
 ·intro d c i hi hbef;obtain⟨p,hp,e1⟩:=hin d.1 d.2
  have hcl:c<d.1.E.length:=by
   have:=List.length_pos_of_mem hi;rw[rR]at this;omega
  by_cases hci:d.1.E[c]?=some i
  ·exact⟨d,rfl,rfl,hci,rfl,fun _ _=>rfl⟩
  have q:=(t3 p hp).2.2.2.2 c (by rw[e1];omega);rw[e1]at q
  rcases q.1 i hi with q1 | ⟨p',hp',q1,q2⟩
  ·exfalso;rw[Bool.eq_false_iff]at q1;refine q1 (List.all_eq_true.2 fun e he=>?_);by_cases hei:e=i
   ·simp[hei]
   ·rw[hbef e he hei];simp
  ·obtain⟨d',hd',e2⟩:=hout p' hp';rw[←e2]at q1 q2;have hcp:=cpl_at q1.symm q2 hi hci;have hcr:=mt (mu b3 d.1 d.2) d' hd';unfold crossO at hcr;rw[hcp]at hcr;refine⟨⟨d',hd'⟩,hlenE _ hd' _ d.2,q1,q2,hcr.1.symm,fun k hk=>?_⟩;by_cases hkl:k<ops.size
   ·have hc:=q.2 k hkl
    have hk2:k∈dK cmp c:=by
     rcases hc with(hc | ⟨e,he,hc⟩) | hc
     ·exact absurd rfl (hk k (List.contains_iff_mem.1 hc)).1
     ·rw[(hk e he).2]at hc;cases hc
     ·exact List.contains_iff_mem.1 hc
    have:=dp hcr.2 k hk2;simp only[val];rw[this]
   ·have l1:=(b2 d.1 d.2).1;have l2:=(b2 d' hd').1;simp only[val];rw[qA (by omega),qA (by omega)]
 ·intro d i o ho;obtain⟨a1,a2,a3⟩:=b2 d.1 d.2;exact obl_at (fr0:=fr) (val:=val d) ops.toList 0 d.1.vs (by simp) (fun k hk=>by rw[qM];exact hv d k hk) a2 i o (pv _) ho
 ·intro d s' a' k1 k2 k3 k4 k5;obtain⟨a1,a2,a3⟩:=b2 d.1 d.2;have hg1:=a3 (val d) (hv d);exact⟨d.1.g,s',rfl,k1,k2,by rw[hg1];exact k3,k4,by rw[k5];exact allK_at b4 d.1 d.2⟩
 ·exact ph (pY _ _) (by simp)
end
attribute [simp] li oblNs kP kO crossO allK oA cplN
end
section
section
variable {P:Program} {T:Ty}
theorem frz_okp{s:St}(hg:Good s){k e z m:Nat}{xs:List V}{fz:Bool}(hk:s.H[k]?=some (.buf e z xs fz)){u:Value}(h:Rel s (.buf k 0 m xs.length) u):Rel (s.frz k (.buf e z xs true)) (.lst z false (xs.take m)) u:=by
 have hkl:=aB hk;obtain⟨_,hst,_⟩:=lD hg hk
 cases h with
 | buf _ _ _ _ e2 z2 xs2 fz2 A l c hk2 ht hh =>
  rw[hk]at hk2;cases hk2;obtain⟨hA,rfl,hcap,hm⟩:=hh rfl;obtain⟨vs,g2,g3,g4,g5,g6,g7⟩:=hg.blk k _ hk
  have hlen:(xs.take l).length=l:=by rw[qO];omega
  by_cases hl0:l=0
  ·subst hl0;exact bR z false A c (fun h=>by cases h)
  have hκ:s.κ k≠0:=by omega
  have hA:=hA hκ;subst hA;have hlk:=lvB hk hκ
  have hP:(s.frz k (.buf e z xs true)).Prot (s.φ k):=by
   refine⟨(hg.lt k hlk).1,(hg.lt k hlk).2,fun j hj e'=>?_⟩;have:=hg.inj j k (oF hk hj) hlk e';subst this;exact⟨e,z,xs,by simp only[St.frz];rw[pO hkl]⟩
  have hat:∀i x,(xs.take l)[i]?=some x→xs[i]?=some x:=fun i x hx=>by
   rw[po]at hx;split at hx
   ·exact hx
   ·cases hx
  have r:Rel (s.frz k (.buf e z xs true)) (.lst z false (xs.take l)) (.slice (some ⟨s.φ k,0*z,none⟩) (xs.take l).length c):=by
   refine .lst z false (xs.take l) _ c (s.φ k) (0*z) (fun i j=>(s.w.cell? ⟨s.φ k,0*z+i*z+j,none⟩).getD Go.undef) (by omega) (by simp) (fun _=>⟨rfl,hP⟩) (fun x hx=>g6 x (pi hx)) (fun i x j d hx hd=>?_) (fun i x j d hx hd=>?_)
   ·obtain⟨_,_,h3⟩:=dC hg hk (hat i x hx);obtain⟨u,hu,_⟩:=h3 j d hd;show s.w.cell? _=_;rw[qm,qM,hu];rfl
   ·obtain⟨_,_,h3⟩:=dC hg hk (hat i x hx);obtain⟨u,hu,hr⟩:=h3 j d hd;rw[qm,qM,hu];exact hr.step hst
  rw[hlen]at r;exact r
theorem wcall_frz{f:FuncId}{args:List V}{H G:List B}{k e z m n:Nat}{xs:List V}{fz:Bool}(h:aZ P f args H fun r H'=>r = .buf k 0 m n∧H'=G)(hk:G[k]?=some (.buf e z xs fz))(hn:xs.length=n):
  aI P (.fn f []) args H fun r H'=>r = .lst z false (xs.take m)∧H'=G.set k (.buf e z xs true):=by
 simp only[aI,pL];refine⟨h.1,fun s vals hA hg hsz hrel=>(h.2 s vals hA hg hsz hrel).mono fun e' w' ⟨u,s',r,a1,a2,a3,a4,a5,a6,a7⟩=>?_⟩;subst a6;subst hn;rw[←a7]at hk;obtain⟨p1,p2,_⟩:=lD a3 hk;exact⟨u,s'.frz k (.buf e z xs true),_,a1,a2,p1,a4.trans p2,frz_okp a3 hk a5,rfl,by rw[←a7];rfl⟩
end
end
section
section
variable {P:Program} {T:Ty}
theorem conH_of_conOX{f:FuncId}{args args':List V}{K:Nat→Nat→List V→Prop}{H:List B}(h:fQ P f args' K)(hl:args.length=args'.length)(he:∀(i:Nat) a a',args[i]?=some a→args'[i]?=some a'→Exp H a a')(hs:∀e z xs,K e z xs→∀x∈xs,∀c∈x.cells,Scalar c):
  aZ P f args H fun r H'=>∃e z xs,r = .buf H.length 0 xs.length xs.length∧H'=H++[.buf e z xs false]∧(∀x∈xs,Pure x)∧K e z xs:=by
 refine⟨h.1,fun s vals hH hg hsz hrel=>?_⟩;obtain⟨rfl,hZ⟩:=hH
 have hFl:∀b,hold s (fun _=>True) b→b<s.w.heap.size:=by
  rintro b (h | ⟨k,hk,rfl,_⟩)
  ·exact hg.fl b h
  ·exact(hg.lt k hk).1
 refine(h.2 (hold s fun _=>True) s.w vals (hZ.hold _) hFl (by omega) (fun i a' u ha' hu=>?_)).mono fun e w' ⟨u,e',z,xs,A,g0,c,a1,a2,aA,a3,a4,a5,a6,a7⟩=>?_
 ·have hi:i<args.length:=by have:=aB ha';omega
  have ha:args[i]?=some args[i]:=ov hi;exact(hrel i _ u ha hu).exp hg (he i _ a' ha ha') (fun _ _ _ _ _=>trivial)
 ·subst a2;by_cases hc0:c=0
  ·subst hc0;obtain⟨_,_,_,g4,_⟩:=a5.blk 0 _ rfl;obtain rfl:xs=[]:=qN (by simpa using g4);obtain⟨p1,p2⟩:=mi hg 0 e' z false a6.os a6.tape a6.output a6.size a6.block;refine⟨_,s.push w' 0 0 (.buf e' z [] false),.buf s.H.length 0 0 0,a1,rfl,p1,p2,?_,e',z,[],rfl,rfl,a3,a7⟩;refine .buf s.H.length 0 0 0 e' z [] false _ _ _ (by simp[St.push]) (pI _) (fun _=>?_);simp only[St.push,aH];exact⟨fun h=>absurd rfl h,by simp,by simp,by simp⟩
  have a4:=a4 hc0;have hA:=aA hc0;subst hA;have hgl:g0<w'.heap.size:=(a5.lt 0 (lvB (e:=e') (z:=z) (xs:=xs) (fz:=false) rfl hc0)).1;obtain⟨g,hgg⟩:∃g,g=g0:=⟨g0,rfl⟩;subst hgg;have hst:=cA (bl:=.buf e' z xs false) (c:=c) hg a6.os a6.tape a6.output a6.size a6.block a4;refine⟨_,s.push w' g c (.buf e' z xs false),.buf s.H.length 0 xs.length xs.length,a1,rfl,cV hg a6.os a6.tape a6.output a6.size a6.block a4 hgl (fun hst=>?_),hst,?_,e',z,xs,rfl,rfl,a3,a7⟩
  ·obtain⟨vs,g2,g3,g4,g5,g6,g7⟩:=a5.blk 0 _ rfl;exact⟨vs,fun _=>by simp only[St.push,aH];exact g2 hc0,by simp only[St.push,aH];exact g3,by simp only[St.push,aH];exact g4,by simp only[St.push,aH];exact g5,g6,fun i x j d u hx hd hu=>(g7 i x j d u hx hd hu).scalar (hs _ _ _ a7 x (oz hx) d (oz hd))⟩
  ·refine .buf s.H.length 0 xs.length xs.length e' z xs false _ _ _ (by simp[St.push]) (pI _) (fun _=>?_);simp only[St.push,aH];exact⟨fun _=>by simp,trivial,by simp,by simp⟩
theorem callOX{f:FuncId}{args args':List V}{H:List B}{K:Nat→Nat→List V→Prop}(h:fQ P f args' K)(hl:args.length=args'.length)(he:∀(i:Nat) a a',args[i]?=some a→args'[i]?=some a'→Exp H a a')(hs:∀e z xs,K e z xs→∀x∈xs,∀c∈x.cells,Scalar c):
  aI P (.fn f []) args H fun r H'=>∃e z xs,r = .buf H.length 0 xs.length xs.length∧H'=H++[.buf e z xs false]∧(∀x∈xs,Pure x)∧K e z xs:=by
 simp only[aI,pL];exact conH_of_conOX h hl he hs
end
end
end
end Go.AM
