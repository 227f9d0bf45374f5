/- JX10: own texts of this seat, joined and shortened by pack4.py: Opb, Bulk, Cut, SO4, CP, FrB, XO. -/
import Derived.Test.YtjogkbekekdkjaaGreatDoorJX9
import Derived.Test.YtjogkbekekdkjaaGreatDoorRows
set_option linter.unusedVariables false
set_option linter.unusedSimpArgs false
set_option maxRecDepth 100000
set_option maxHeartbeats 64000000
open Bool renaming and_eq_true→rX,or_eq_true→sV
open List renaming replicate→rO,drop_eq_getElem_cons→rP,getElem_mem→rQ,drop_of_length_le→rR,not_mem_nil→rS,getElem?_eq_getElem→rT,mem_cons→rU,mem_of_getElem?→rW,range→rh,length_append→ri,append_nil→rj,drop_zero→rk,getElem?_append_right→rq,take_of_length_le→rt,nil_append→rx,getElem?_set_ne→ry,getElem?_set_self→sA,length_cons→sB,mem_singleton→sC,all_eq_true→sH,take_length→sJ,length_map→sK,getElem?_map→sQ,set_append_right→sS,length_set→se,mem_append→sx,set_set→tC,take_append_drop→tG,length_drop→tL,getD→tO,length_take→tR,mem_or_eq_of_mem_set→tT,pairwise_append→ti,map_take→tj,reverse_reverse→uF,take→uH,map_set→uM,length_range→uj,drop→vI
open Nat renaming le_refl→rd,le_trans→sF,zero_le→sY,add_assoc→tJ,sub_self→tg,add_zero→tm,zero_mul→uC
open Option renaming map_some→sU
namespace Go.AM
section
open Go Go.Deep
section
structure BulkOk {H:Type} (bk:DataW H→Nat):Prop where
 len:∀es sp,es.length≤bk (.slice es sp)
 elem:∀es sp d,d∈es→bk d≤bk (.slice es sp)
 part:∀ps d,d∈ps→bk d≤bk (.agg ps)
def ShB(T:Ty)(Bd:Nat):Nat→TypeId→List V→Prop
 | 0,_,_=>False
 | n+1,t,vs=>match T t with
  | none=>False
  | some i=>match i.desc with
   | .bool=>∃b,vs=[.bool b]
   | .int k=>∃m,vs=[.int k m]∧(Lit.int k m).wf=true
   | .string=>∃s,vs=[.str s]∧s.size≤maxLen
   | .slice e=>match T e with
    | some j=>∃xs,vs=[.lst j.size false xs]∧xs.length≤maxLen∧xs.length≤Bd∧∀x∈xs,∃ws,ShB T Bd n e ws∧ws.length=j.size∧x=(if bX j.desc then .agg ws else ws.headD .undef)
    | none=>False
   | .struct fs=>vs.length=i.size∧∀f∈fs.toList,∃j,T f.type=some j∧ShB T Bd n f.type ((vs.drop f.offset).take j.size)
   | _=>False
section
variable {P:Program} {T:Ty} {Bd:Nat} {Hd:Type} {enc:TypeId×Value→Hd} {w:World} {held:Bool}
theorem nw{n tot:Nat}{cs:List Value}(hlen:cs.length=tot):∀(l:List Field) (off:Nat),mO T tot off l=true→off≤tot →
  (∀f∈l,∀j,T f.type=some j→∃vs,CR w vs ((cs.drop f.offset).take j.size)∧ShB T Bd n f.type vs)→
  ∃vs,CR w vs (cs.drop off)∧∀f∈l,∃j,T f.type=some j∧off≤f.offset∧ShB T Bd n f.type ((vs.drop (f.offset-off)).take j.size)
 | [],off,h,hle,_=>by
  simp only[mO,beq_iff_eq]at h;refine⟨[],⟨by simp;omega,by simp,by simp⟩,by simp⟩
 | f::r,off,h,hle,hf=>by
  simp only[mO]at h;split at h
  ·rename_i j hj;simp only[rX,beq_iff_eq]at h;obtain⟨hoff,h⟩:=h;have hle2:off+j.size≤tot:=lay_le r _ h;obtain⟨vs,hcr,hsh⟩:=hf f (by simp) j hj;obtain⟨ws,hcr2,hws⟩:=nw hlen r (off+j.size) h hle2 (fun g hg=>hf g (by simp[hg]))
   have hvl:vs.length=j.size:=by rw[hcr.len,hoff,tR,tL];omega
   refine⟨vs++ws,?_,fun g hg=>?_⟩
   ·have:=hcr.append hcr2
    rwa [hoff,←List.drop_drop,tG]at this
   ·rcases List.mem_cons.1 hg with rfl | hg
    ·refine⟨j,hj,by omega,?_⟩;rw[hoff,tg,rk,List.take_append_of_le_length (by omega),rt (by omega)];exact hsh
    ·obtain⟨j2,hj2,hle3,hs2⟩:=hws g hg;refine⟨j2,hj2,by omega,?_⟩;rw[List.drop_append,rR (by omega),rx,hvl,show g.offset-off-j.size=g.offset-(off+j.size) by omega];exact hs2
  ·cases h
where
 lay_le {tot:Nat} : ∀(l:List Field) (off:Nat),mO T tot off l=true→off≤tot
  | [],off,h=>by simp only[mO,beq_iff_eq]at h;omega
  | f::r,off,h=>by
   simp only[mO]at h;split at h
   ·simp only[rX]at h;have:=lay_le r _ h.2;omega
   ·cases h
theorem opnB{bk:DataW Hd→Nat}(hB:BulkOk bk)(hT:TOk P T)(hc:∀t i,T t=some i→P.cellsOf t=i.size):∀(n fuel:Nat) (t:TypeId) (cs:List Value) (x:DataW Hd×List MemPlace),ShOk T n t=true→DataW.trod enc P w 0 (fun _=>true) held fuel t cs=some x→bk x.1≤Bd→∃vs,CR w vs cs∧ShB T Bd n t vs
 | 0,_,_,_,_,h,_,_=>by simp[ShOk]at h
 | n+1,fuel,t,cs,x,h,ht,hbd=>by
  simp only[ShOk]at h;split at h
  ·cases h
  ·rename_i i hi;have hu:=hT.und t i hi;have hcell:=hc t i hi;split at h
   ·rename_i hd;rw[hd]at hu
    cases fuel with
    | zero=>simp[DataW.trod]at ht
    | succ m =>
     unfold DataW.trod at ht;rw[hu]at ht;split at ht<;>simp_all;exact⟨_,CR.single (.bool _) rfl,by simp[ShB,hi,hd]⟩
   ·rename_i k hd;rw[hd]at hu
    cases fuel with
    | zero=>simp[DataW.trod]at ht
    | succ m =>
     unfold DataW.trod at ht;rw[hu]at ht;split at ht<;>simp_all;exact⟨_,CR.single (.int _ _) rfl,by simp[ShB, *]⟩
   ·rename_i hd;rw[hd]at hu
    cases fuel with
    | zero=>simp[DataW.trod]at ht
    | succ m =>
     unfold DataW.trod at ht;rw[hu]at ht;split at ht<;>simp_all;exact⟨_,CR.single (.str _) rfl,by simp[ShB, *]⟩
   ·rename_i e hd;rw[hd]at hu;split at h
    ·rename_i j hj;simp only[rX,decide_eq_true_eq,sV,beq_iff_eq]at h;obtain⟨⟨hz,hag⟩,hok⟩:=h
     rcases open_slice hu ht with⟨rfl,_⟩ | ⟨a,len,cap,m,q,D,Pl,rfl,_,hle,hcap,hm,hxe,hel⟩
     ·exact⟨[.lst j.size false []],CR.single (df _ false _ _ (by simp)) rfl,by simp only[ShB,hi,hd,hj];exact⟨[],rfl,by simp,by simp,by simp⟩⟩
     ·simp only[if_true]at hm;subst hm;rw[hc e j hj]at hel
      have hxb:∀i,i<len→bk (D i)≤Bd:=fun i hi'=>sF (hB.elem _ _ (D i) (List.mem_map.2 ⟨i,List.mem_range.2 hi',rfl⟩)) (by rw[hxe]at hbd;exact hbd)
      have hlb:len≤Bd:=by
       have h1:=hB.len ((rh len).map D) ((rh (m-len)).map fun j=>D (len+j));rw[sK,uj]at h1;rw[hxe]at hbd;exact sF h1 hbd
      have hex:∀i,i<len→∃ws:List V,ShB T Bd n e ws∧ws.length=j.size∧(∀v∈ws,v.one=true)∧∀(l:Nat) v,ws[l]?=some v→∃c,w.cell? (a.add (i*j.size+l))=some c∧Rel (base (fun _=>False) w) v c:=fun i hil=>by
       obtain⟨cs',h1,h2⟩:=hel i (by omega);obtain⟨ws,hcr,hsh⟩:=opnB hB hT hc n q e cs' _ hok h2 (hxb i hil);obtain⟨_,hcl,hat⟩:=World.cells?_some h1;refine⟨ws,hsh,by rw[hcr.len,hcl],hcr.one,fun l v hv=>?_⟩
       have hl:l<j.size:=by have:=aB hv;rw[hcr.len,hcl]at this;exact this
       have hcv:cs'[l]?=some (cs'[l]'(by omega)):=rT (by omega);have:=hat l hl;rw[hcv,add_add]at this;exact⟨_,this,hcr.rel l v _ hv hcv⟩
      obtain⟨W,hW⟩:=choose_lt hex
      obtain⟨xs,hxs⟩:∃xs:List V,xs=(rh len).map fun i=>(if bX j.desc then V.agg (W i) else(W i).headD .undef):=⟨_,rfl⟩
      have hxl:xs.length=len:=by simp[hxs]
      have hxat:∀(i:Nat) y,xs[i]?=some y→i<len∧y=(if bX j.desc then V.agg (W i) else(W i).headD .undef)∧y.cells=W i:=fun i y hy=>by
       have hil:i<len:=by have:=aB hy;omega
       rw[hxs,sQ,List.getElem?_range hil]at hy;simp only[sU,Option.some.injEq]at hy;obtain⟨_,hwl,hw1,_⟩:=hW i hil;refine⟨hil,hy.symm,?_⟩;rw[←hy];split
       ·rfl
       ·rename_i hna
        have hz1:j.size=1:=by rcases hag with h | h;exact absurd h hna;exact h
        obtain⟨v,hv⟩:=List.length_eq_one_iff.1 (hwl.trans hz1);rw[hv];exact one_cells (hw1 v (by rw[hv];simp))
      have hsh:∀y∈xs,∃ws,ShB T Bd n e ws∧ws.length=j.size∧y=(if bX j.desc then V.agg ws else ws.headD .undef):=fun y hy=>by
       obtain⟨i,hi'⟩:=List.mem_iff_getElem?.1 hy;obtain⟨hil,hye,_⟩:=hxat i y hi';exact⟨W i,(hW i hil).1,(hW i hil).2.1,hye⟩
      refine⟨[.lst j.size false xs],CR.single ?_ rfl,by simp only[ShB,hi,hd,hj];exact⟨xs,rfl,by omega,by omega,hsh⟩⟩
      ·have hspot:0<len→a.spot=none∧a.block<w.heap.size:=fun h0=>by
        obtain⟨_,hwl,_,hcv⟩:=hW 0 h0;obtain⟨c,hcc,_⟩:=hcv 0 (W 0)[0] (rT (by omega));simp only[uC,tm]at hcc;have hb:=World.block_lt_of_cell? w _ hcc;have hs:=spot_cell hcc;simpa[Addr.add] using And.intro hs hb
       have:=Rel.lst (s:=base (fun _=>False) w) j.size false xs (some a) m a.block a.off (fun i l=>(w.cell? ⟨a.block,a.off+i*j.size+l,none⟩).getD undef) (by omega) (by simp) (fun h0=>by
         obtain⟨h1,h2⟩:=hspot (by omega)
         exact⟨by cases a;simp_all,h2,fun h=>h,fun k hk=>by have:=hk.1;simp[base]at this⟩)
        (fun y hy=>by
         obtain⟨i,hi'⟩:=List.mem_iff_getElem?.1 hy;obtain⟨hil,_,hyc⟩:=hxat i y hi';rw[hyc]
         exact⟨(hW i hil).2.1,(hW i hil).2.2.1⟩)
        (fun i y l c hy hcc=>by
         obtain⟨hil,_,hyc⟩:=hxat i y hy;rw[hyc]at hcc;obtain⟨u,hu1,_⟩:=(hW i hil).2.2.2 l c hcc;rw[addr_at (hspot (by omega)).1,←tJ]at hu1;show w.cell? _=_
         rw[hu1];rfl)
        (fun i y l c hy hcc=>by
         obtain⟨hil,_,hyc⟩:=hxat i y hy;rw[hyc]at hcc;obtain⟨u,hu1,hu2⟩:=(hW i hil).2.2.2 l c hcc;rw[addr_at (hspot (by omega)).1,←tJ]at hu1;rw[hu1]
         exact hu2)
       rwa [hxl]at this
    ·cases h
   ·rename_i fs hd;rw[hd]at hu;simp only[rX,sH]at h;obtain⟨xs,q,_,hxe,hlen,hxl,hf⟩:=DataW.trod_struct hu ht;rw[hcell]at hlen
    obtain⟨vs,hcr,hvs⟩:=nw (T:=T) (Bd:=Bd) (w:=w) (n:=n) hlen fs.toList 0 h.1 (sY _) (fun f hfm j hj=>by
     obtain⟨k,hk⟩:=List.mem_iff_getElem?.1 hfm
     have hk':fs[k]?=some f:=by simpa using hk
     have h1:=hf k f hk'
     have hkl:k<xs.length:=by rw[hxl];exact(Array.getElem?_eq_some_iff.1 hk').1
     rw[rT hkl,hc f.type j hj]at h1
     exact opnB hB hT hc n q f.type _ _ (h.2 f hfm) h1 (sF (hB.part _ _ (List.mem_map.2 ⟨_,rQ hkl,rfl⟩)) (by rw[hxe]at hbd;exact hbd)))
    rw[rk]at hcr;refine⟨vs,hcr,?_⟩;simp only[ShB,hi,hd];refine⟨by rw[hcr.len,hlen],fun f hfm=>?_⟩;obtain⟨j,hj,_,hs⟩:=hvs f hfm;exact⟨j,hj,by simpa using hs⟩
   ·cases h
end
end
end
end Go.AM
namespace Go.Proofs.YtjogkbekekdkjaaGreatDoor
section
open Go Go.AM
theorem bulk_one{H:Type}(d:DataW H):1≤Rows.uptoBulk d:=by
 cases d with
 | lit l=>cases l<;>simp[Rows.uptoBulk]
 | nil=>simp[Rows.uptoBulk]
 | ptr d=>simp[Rows.uptoBulk]
 | slice a b=>simp[Rows.uptoBulk]
 | agg l=>simp[Rows.uptoBulk]
 | iface t d=>simp[Rows.uptoBulk]
 | map l=>simp[Rows.uptoBulk]
 | held h=>simp[Rows.uptoBulk]
theorem bulk_mem{H:Type}{d:DataW H} : ∀{l:List (DataW H)},d∈l→Rows.uptoBulk d≤Rows.uptoBulkAll l
 | [],h=>by cases h
 | x::r,h=>by
  rw[Rows.uptoBulkAll]
  rcases List.mem_cons.1 h with rfl | h
  ·omega
  ·have:=bulk_mem h;omega
theorem bulk_len{H:Type} : ∀l:List (DataW H),l.length≤Rows.uptoBulkAll l
 | []=>by simp
 | x::r=>by
  rw[Rows.uptoBulkAll,sB];have:=bulk_one x;have:=bulk_len r;omega
theorem bulk_ok{H:Type} : BulkOk (H:=H) Rows.uptoBulk where
 len es sp:=by rw[Rows.uptoBulk];have:=bulk_len es;omega
 elem es sp d h:=by rw[Rows.uptoBulk];have:=bulk_mem h;omega
 part ps d h:=by rw[Rows.uptoBulk];have:=bulk_mem h;omega
theorem bulk_le{H:Type}{l:List (DataW H)}(h:Rows.uptoSmall H l=true):Rows.uptoBulkAll l≤1048576:=of_decide_eq_true h
theorem ke{P:Program}{f:FuncId}{args:List V}{H:List B}{σ:Type}{ok:σ→Prop}{rf:σ→V}{Hf:σ→List B}(h:av P f args H fun r H'=>∃x,ok x∧r=rf x∧∃G,H'=Hf x++G)(hl:∀x,ok x→H.length≤(Hf x).length)(hr:∀x,ok x→rb (Hf x).length (rf x))(hb:∀x,ok x→∀bl∈Hf x,rbB (Hf x).length bl):av P f args H fun r H'=>∃x,ok x∧r=rf x∧H'=Hf x:=by
 refine⟨h.1,fun s vals h1 h2 h3 h4=>(h.2 s vals h1 h2 h3 h4).mono fun e w' ⟨u,s',r,a,b,c,d,e1,x,k1,k2,G,k3⟩=>?_⟩;subst k2;exact⟨u,s'.cut (Hf x),rf x,a,b,cut_good c k3 (hb x k1),mj c k3 (Step.refl _) s d (by rw[h1.1];exact hl x k1),kZ k3 e1 (hr x k1),x,k1,rfl,rfl⟩
section
theorem getZ{α:Type}(l:List α){i:Nat}(d:α)(h:i<l.length):l.getD i d=l[i]:=by simp[tO,h]
theorem rbsZ{H:List B}{k:Nat}{b:B}(hH:∀bl∈H,rbB H.length bl)(hb:rbB H.length b):∀bl∈H.set k b,rbB (H.set k b).length bl:=fun bl h=>by
 rw[se]
 rcases tT h with h | rfl
 ·exact hH bl h
 ·exact hb
theorem wcZ{P:Program}{f:FuncId}{args:List V}{H:List B}{K K':V→List B→Prop}(h:av P f args H K)(hk:∀r H',K r H'→K' r H'):aQ P (.fn f []) args H K':=by
 simp only[aQ,rj];exact h.mono hk
theorem wrapZ(n:Nat)(h:n<9223372036854775807):IntKind.i64.wrap (n:Int)=n:=wrap64 (by omega) (by omega)
def nzL(m:List Int):List V:=m.map aE
theorem im(m:List Int):(nzL m).length=m.length:=by simp[nzL]
theorem kO{m:List Int}{x:Nat}(h:x<(nzL m).length):(nzL m)[x] = .int .i64 (m.getD x 0):=by
 have h2:x<m.length:=by rw[←im];exact h
 simp[nzL,aE,h2]
theorem og(m:List Int)(x:Nat)(v:Int):(nzL m).set x (.int .i64 v)=nzL (m.set x v):=by
 unfold nzL;rw[uM];rfl
theorem nzL_pure(m:List Int):∀x∈nzL m,AM.Pure x∧dV x=true:=by simp[nzL,aE,dV]
def jS(j:Nat)(l:List Int):List Int:=(l.set (j+1) (l.getD j 0)).set j (l.getD (j+1) 0)
def fE(lt:Int→Int→Bool):Nat→List Int→List Int
 | 0,l=>l
 | j+1,l=>if lt (l.getD (j+1) 0) (l.getD j 0)=true then fE lt j (jS j l) else l
def isZ(lt:Int→Int→Bool):Nat→Nat→List Int→List Int
 | 0,_,l=>l
 | r+1,i,l=>isZ lt r (i+1) (fE lt i l)
theorem pL(j:Nat)(l:List Int):(jS j l).length=l.length:=by simp[jS]
theorem swpZ_perm(j:Nat)(l:List Int)(h:j+1<l.length):(jS j l).Perm l:=by
 unfold jS;rw[getZ l 0 h,getZ l 0 (show j<l.length by omega)];exact List.set_set_perm h (by omega)
theorem fi(lt:Int→Int→Bool):∀(j:Nat) (l:List Int),j<l.length→(fE lt j l).Perm l
 | 0,l,_=>.refl _
 | j+1,l,h=>by
  rw[fE];split
  ·exact(fi lt j (jS j l) (by rw[pL];omega)).trans (swpZ_perm j l h)
  ·exact .refl _
theorem isZ_perm(lt:Int→Int→Bool):∀(r i:Nat) (l:List Int),i+r≤l.length→(isZ lt r i l).Perm l
 | 0,_,l,_=>.refl _
 | r+1,i,l,h=>by
  rw[isZ];have h1:=fi lt i l (by omega);exact(isZ_perm lt r (i+1) _ (by rw[h1.length_eq];omega)).trans h1
def inzZ(x:Int):List Int→List Int
 | []=>[x]
 | y::rp=>if x<y then inzZ x rp++[y] else rp.reverse++[y,x]
def ltZ(a b:Int):Bool:=decide (a<b)
theorem nH(x:Int):∀(rp post:List Int),fE ltZ rp.length (rp.reverse++x::post)=inzZ x rp++post
 | [],post=>rfl
 | y::rp,post=>by
  have e:(y::rp).reverse++x::post=rp.reverse++y::x::post:=by simp
  rw[e,sB,fE,inzZ]
  have g1:(rp.reverse++y::x::post).getD (rp.length+1) 0=x:=by
   simp[tO,rq]
  have g2:(rp.reverse++y::x::post).getD rp.length 0=y:=by
   simp[tO,rq]
  have g3:jS rp.length (rp.reverse++y::x::post)=rp.reverse++x::y::post:=by
   unfold jS;rw[g1,g2,sS _ _ (by simp),sS _ _ (by simp)];simp
  rw[g1,g2,g3];by_cases h:x<y
  ·rw[if_pos (by simp[ltZ,h]),if_pos h,nH x rp (y::post)];simp
  ·rw[if_neg (by simp[ltZ,h]),if_neg h];simp
theorem inzZ_mem(x:Int):∀(rp:List Int) (z:Int),z∈inzZ x rp↔z=x∨z∈rp
 | [],z=>by simp[inzZ]
 | y::rp,z=>by
  rw[inzZ];split
  ·rw[sx,sC,rU,inzZ_mem x rp z];constructor
   ·rintro((h | h) | h)
    ·exact .inl h
    ·exact .inr (.inr h)
    ·exact .inr (.inl h)
   ·rintro(h | h | h)
    ·exact .inl (.inl h)
    ·exact .inr h
    ·exact .inl (.inr h)
  ·simp only[sx,List.mem_reverse,rU,rS,or_false];constructor
   ·rintro(h | h | h)<;>simp[h]
   ·rintro(h | h | h)<;>simp[h]
theorem jh(x:Int):∀rp:List Int,rp.reverse.Pairwise (·≤·)→(inzZ x rp).Pairwise (·≤·)
 | [],_=>by simp[inzZ]
 | y::rp,h=>by
  rw[List.reverse_cons,ti]at h;obtain⟨h1,_,h3⟩:=h;rw[inzZ];split
  ·rename_i hx;rw[ti];refine⟨jh x rp h1,by simp,fun a ha b hb=>?_⟩;rw[sC]at hb;subst hb
   rcases(inzZ_mem x rp a).1 ha with rfl | ha
   ·omega
   ·exact h3 a (by simpa using ha) b (by simp)
  ·rename_i hx;rw[ti];refine⟨h1,by simp;omega,fun a ha b hb=>?_⟩;have:=h3 a ha y (by simp);simp at hb
   rcases hb with rfl | rfl<;>omega
theorem pz:∀(r i:Nat) (l:List Int),i+r=l.length→(l.take i).Pairwise (·≤·)→(isZ ltZ r i l).Pairwise (·≤·)
 | 0,i,l,h,hs=>by
  rw[isZ]
  rwa [rt (by omega)]at hs
 | r+1,i,l,h,hs=>by
  rw[isZ]
  have hi:i<l.length:=by omega
  have e:l=(l.take i).reverse.reverse++l[i]::l.drop (i+1):=by
   rw[uF,←rP hi,tG]
  have hl:(l.take i).reverse.length=i:=by simp;omega
  have hk:=nH l[i] (l.take i).reverse (l.drop (i+1));rw[hl,←e]at hk
  have hin:(inzZ l[i] (l.take i).reverse).length=i+1:=by
   have h1:=(fi ltZ i l hi).length_eq;rw[hk,ri,tL]at h1;omega
  refine pz r (i+1) _ (by rw[(fi ltZ i l hi).length_eq];omega) ?_;rw[hk,List.take_left' hin];exact jh _ _ (by rwa [uF])
section
variable {H:List B} {k:Nat}
def SZ(H:List B)(k:Nat)(l:List Int):List B:=H.set k (.buf 2 1 (nzL l) false)
theorem SZ_at{H:List B}{k:Nat}(h:k<H.length)(l:List Int):(SZ H k l)[k]?=some (.buf 2 1 (nzL l) false):=by
 unfold SZ;rw[sA h]
theorem SZ_set(H:List B)(k:Nat)(l l':List Int):(SZ H k l).set k (.buf 2 1 (nzL l') false)=SZ H k l':=by
 unfold SZ;rw[tC]
theorem qv(H:List B)(k:Nat)(l:List Int):(SZ H k l).length=H.length:=by simp[SZ]
theorem SZ_rb{H:List B}(hH:∀bl∈H,rbB H.length bl)(k:Nat)(l:List Int):∀bl∈SZ H k l,rbB (SZ H k l).length bl:=rbsZ hH ((rbB_buf1 (nzL_pure l)).2 trivial)
theorem nan_Z(x:Int):aL Tryz.prog 139 [.int .i64 x] fun r=>r = .bool false:=by
 refine sPx Tryz.func139 rfl rfl ?_;simp -dsimp[Tryz.f139,rO]
theorem less_Z(a b:Int):aL Tryz.prog 81 [.int .i64 a,.int .i64 b] fun r=>r = .bool (ltZ a b):=by
 unfold ltZ;by_cases h:a<b
 ·rw[decide_eq_true h];refine sPx Tryz.func81 rfl rfl ?_;simp -dsimp[Tryz.f81,rO];refine cPx (nan_Z a) (by simp) ?_;simp -dsimp[h]
 ·rw[decide_eq_false h];refine sPx Tryz.func81 rfl rfl ?_;simp -dsimp[Tryz.f81,rO];refine cPx (nan_Z a) (by simp) ?_;simp -dsimp[h]
theorem insOrdZ_h(hk:k<H.length)(hH:∀bl∈H,rbB H.length bl)(l:List Int)(n:Nat)(hn:l.length=n)(hn2:n≤1000000):
  av Tryz.prog 159 [.buf k 0 n n,.int .i64 0,.int .i64 n] (SZ H k l) fun _ H'=>H'=SZ H k (isZ ltZ (n-1) 1 l):=by
 obtain⟨S,hS⟩:∃S,S=isZ ltZ (n-1) 1 l:=⟨_,rfl⟩;rw[←hS];have w1:IntKind.i64.wrap (1:Int)=1:=wrap64 (by omega) (by omega);refine aF tok Tryz.func159 rfl rfl ?_;refine wx ?_;simp -dsimp[Tryz.f159,rO,w1];refine aG (W_loopM 49 0x1fffffffffcc0 (by simp[mB]<;>rfl) (σ:=Nat×List Int) (fun p=>1≤p.1∧p.1≤n+1∧p.2.length=n∧isZ ltZ (n-p.1) p.1 p.2=S) (fun p=>n+1-p.1) (fun p=>[(6,.int .i64 p.1)]) (fun p=>SZ H k p.2) (1,l) ⟨by simp,by simp,hn,hS.symm⟩ (by simp) (by simp) (by simp[qv]) ?_);rintro⟨i,l1⟩ ⟨hi,hi2,hl1,hx⟩ N Q hN hQ;simp only at hi hi2 hl1 hx hN;by_cases hb:i<n
 ·rw[show n-i=(n-(i+1))+1 by omega,isZ]at hx;refine wx ?_;simp -dsimp[hb];refine aG (W_loopM 49 0x1ffffffff0080 (by simp[mB]<;>rfl) (σ:=Nat×List Int) (fun p=>p.1≤i∧p.2.length=n∧fE ltZ p.1 p.2=fE ltZ i l1) (fun p=>p.1) (fun p=>[(7,.int .i64 p.1)]) (fun p=>SZ H k p.2) (i,l1) ⟨by simp,hl1,rfl⟩ (by simp) (by simp) (by simp[qv]) ?_);rintro⟨j,l2⟩ ⟨hj,hl2,hy⟩ N2 Q2 hN2 hQ2;simp only at hj hl2 hy hN2;have g9:=SZ_at hk l2;have hnl:=im l2
  cases j with
  | zero =>
   rw[fE]at hy;refine wx ?_;simp -dsimp[];refine .inr ⟨aC (by kernel_rfl),?_⟩;refine hQ2 _ _ _ ?_;simp -dsimp[aH i (by omega)];refine hN (i+1,l2) _ _ ⟨by simp only;omega,by simp only;omega,hl2,by rw[hy];exact hx⟩ (by simp only;omega) (by simp) ⟨[],by simp⟩ (by simp[qv];exact hk) (SZ_rb hH k l2)
  | succ j =>
   rw[fE]at hy
   have a1:=fun h=>kO (m:=l2) (x:=j+1) h
   have a0:=fun h=>kO (m:=l2) (x:=j) h
   have wj:IntKind.i64.wrap (((j:Int)+1)-1)=(j:Int):=by rw[wrap64 (by omega) (by omega)];omega
   have wj2:IntKind.i64.wrap (j:Int)=(j:Int):=wrapZ j (by omega)
   have hj1:j+1<n:=by omega
   have hj0:j<n:=by omega
   obtain⟨x,hxx⟩:∃x,x=l2.getD (j+1) 0:=⟨_,rfl⟩;obtain⟨y,hyy⟩:∃y,y=l2.getD j 0:=⟨_,rfl⟩;rw[←hxx,←hyy]at hy;rw[←hxx]at a1;rw[←hyy]at a0;have cl:=less_Z x y
   cases hq:ltZ x y with
   | true =>
    rw[hq]at cl;rw[if_pos hq]at hy;refine wx ?_;simp -dsimp[g9,hnl,hl2,hj1,hj0,a1,a0,wj,wj2,show(0:Int)≤(j:Int)+1 by omega,show(j:Int)+1<(n:Int) by omega];refine .inr ⟨aC (by kernel_rfl),?_⟩;refine aN _ (aK (cl) (by simp)) ?_;simp -dsimp[]
    have hsw:jS j l2=(l2.set (j+1) y).set j x:=by unfold jS;rw[←hxx,←hyy]
    have hst1:(nzL l2).set (j+1) (.int .i64 y)=nzL (l2.set (j+1) y):=og l2 (j+1) y
    have hst2:(nzL (l2.set (j+1) y)).set j (.int .i64 x)=nzL (jS j l2):=by rw[hsw];exact og _ j x
    have q9:=SZ_at hk (l2.set (j+1) y);have qs1:=SZ_set H k l2 (l2.set (j+1) y);have qs2:=SZ_set H k (l2.set (j+1) y) (jS j l2);have qnl:=im (l2.set (j+1) y);rw[se]at qnl
    have b0:=fun h=>kO (m:=l2.set (j+1) y) (x:=j) h
    refine aG (aW tok mixed [15,17] [(2,[1]),(3,[1]),(4,[1])] [] (by kernel_rfl) fun C K hC hK=>?_);simp -implicitDefEqProofs [g9,hnl,hl2,hj1,hj0,a1,a0,wj,wj2,hst1,hst2,q9,qs1,qs2,qnl,b0,show(0:Int)≤(j:Int)+1 by omega,show(j:Int)+1<(n:Int) by omega];refine hK _ _ ?_;simp -dsimp[wj,wj2];refine hN2 (j,jS j l2) _ _ ⟨by simp only;omega,by rw[pL];exact hl2,hy⟩ (by simp only;omega) (by simp) ⟨[],by simp⟩ (by simp[qv];exact hk) (SZ_rb hH k _)
   | false =>
    rw[hq]at cl;rw[if_neg (by rw[hq];simp)]at hy;refine wx ?_;simp -dsimp[g9,hnl,hl2,hj1,hj0,a1,a0,wj,wj2,show(0:Int)≤(j:Int)+1 by omega,show(j:Int)+1<(n:Int) by omega];refine .inr ⟨aC (by kernel_rfl),?_⟩;refine aN _ (aK (cl) (by simp)) ?_;simp -dsimp[];refine hQ2 _ _ _ ?_;simp -dsimp[aH i (by omega)];refine hN (i+1,l2) _ _ ⟨by simp only;omega,by simp only;omega,hl2,by rw[hy];exact hx⟩ (by simp only;omega) (by simp) ⟨[],by simp⟩ (by simp[qv];exact hk) (SZ_rb hH k l2)
 ·rw[show n-i=0 by omega,isZ]at hx;subst hx;refine wx ?_;simp -dsimp[hb];refine hQ _ _ _ ?_;simp -dsimp[]
end
theorem bitsLenZ(n:Nat)(h:n≤12):∃v:Int,aL Tryz.prog 105 [.int .u64 (n:Int)] fun r=>r = .int .i64 v :=
 match n,h with
 | 0,_=>⟨0,aO tok mixed au bc (fuel:=1000) (d:=40) (by kernel_rfl) (by simp)⟩
 | 1,_=>⟨1,aO tok mixed au bc (fuel:=1000) (d:=40) (by kernel_rfl) (by simp)⟩
 | 2,_=>⟨2,aO tok mixed au bc (fuel:=1000) (d:=40) (by kernel_rfl) (by simp)⟩
 | 3,_=>⟨2,aO tok mixed au bc (fuel:=1000) (d:=40) (by kernel_rfl) (by simp)⟩
 | 4,_=>⟨3,aO tok mixed au bc (fuel:=1000) (d:=40) (by kernel_rfl) (by simp)⟩
 | 5,_=>⟨3,aO tok mixed au bc (fuel:=1000) (d:=40) (by kernel_rfl) (by simp)⟩
 | 6,_=>⟨3,aO tok mixed au bc (fuel:=1000) (d:=40) (by kernel_rfl) (by simp)⟩
 | 7,_=>⟨3,aO tok mixed au bc (fuel:=1000) (d:=40) (by kernel_rfl) (by simp)⟩
 | 8,_=>⟨4,aO tok mixed au bc (fuel:=1000) (d:=40) (by kernel_rfl) (by simp)⟩
 | 9,_=>⟨4,aO tok mixed au bc (fuel:=1000) (d:=40) (by kernel_rfl) (by simp)⟩
 | 10,_=>⟨4,aO tok mixed au bc (fuel:=1000) (d:=40) (by kernel_rfl) (by simp)⟩
 | 11,_=>⟨4,aO tok mixed au bc (fuel:=1000) (d:=40) (by kernel_rfl) (by simp)⟩
 | 12,_=>⟨4,aO tok mixed au bc (fuel:=1000) (d:=40) (by kernel_rfl) (by simp)⟩
 | n+13,h=>by omega
section
variable {H:List B} {k:Nat}
theorem sortZ_h(hk:k<H.length)(hH:∀bl∈H,rbB H.length bl)(l:List Int)(n:Nat)(hn:l.length=n)(hn2:n≤12):
  av Tryz.prog 60 [.buf k 0 n n] (SZ H k l) fun _ H'=>H'=SZ H k (isZ ltZ (n-1) 1 l):=by
 obtain⟨v,hv⟩:=bitsLenZ n hn2;have c1:=insOrdZ_h hk hH l n hn (by omega)
 have c2:av Tryz.prog 104 [.buf k 0 n n,.int .i64 0,.int .i64 n,.int .i64 v] (SZ H k l) fun _ H'=>H'=SZ H k (isZ ltZ (n-1) 1 l):=by
  have w0:IntKind.i64.wrap (n:Int)=n:=wrapZ n (by omega);refine aF tok Tryz.func104 rfl rfl ?_;refine wx ?_;simp -dsimp[Tryz.f104,rO];refine aG (W_loopM 134 0x3fffffffffffffffffffffffffffffff0e (by simp[mB]<;>rfl) (σ:=Nat) (fun p=>p=0) (fun p=>0) (fun _=>[(8,.bool true),(9,.bool true),(1,.int .i64 0),(2,.int .i64 n),(3,.int .i64 v)]) (fun _=>SZ H k l) 0 rfl (by simp) (by simp) (by simp) ?_);rintro p rfl N Q hN hQ;refine wx ?_;simp -dsimp[w0,show(n:Int)≤12 by omega,show n≤12 by omega];refine wcZ c1 ?_;rintro _ _ rfl;simp -dsimp[];refine hQ _ _ _ ?_;simp -dsimp[]
 have wu:IntKind.u64.wrap (n:Int)=(n:Int):=by rw[IntKind.wrap_u64];omega
 have g9:=SZ_at hk l;have hnl:=im l;refine aF tok Tryz.func60 rfl rfl ?_;refine wx ?_;simp -dsimp[Tryz.f60,rO,g9,hnl,hn,wu];refine cPx hv (by simp) ?_;simp -dsimp[];refine wcZ c2 ?_;rintro _ _ rfl;simp -dsimp[]
end
end
section
def liL(m:List (List Int)):List V:=m.map (L1 false)
theorem liL_len(m:List (List Int)):(liL m).length=m.length:=by simp[liL]
theorem mL{m:List (List Int)}{x:Nat}(h:x<(liL m).length):(liL m)[x] = .lst 1 false ((eAt m x).map aE):=by
 have h2:x<m.length:=by simpa[liL] using h
 simp[liL,L1,eAt,h2]
theorem liL_set(m:List (List Int))(x:Nat)(v:List Int):(liL m).set x (.lst 1 false (v.map aE))=liL (m.set x v):=by
 unfold liL;rw[uM];rfl
def iF(m:List (List Int))(k:Nat):List V:=liL m++rO k .nilS
theorem mix0(m:List (List Int)):iF m 0=liL m:=by simp[iF]
theorem mixL_rb(n e:Nat)(m:List (List Int))(k:Nat)(fz:Bool):rbB n (.buf e 1 (iF m k) fz):=fun x hx=>by
 unfold iF liL at hx
 rcases List.mem_append.1 hx with h | h
 ·obtain⟨y,_,rfl⟩:=List.mem_map.1 h;intro c hc;simp only[L1,V.cells,rU,rS,or_false]at hc;subst hc;simp[rb1]
 ·obtain⟨_,rfl⟩:=List.mem_replicate.1 h;intro c hc;simp only[V.cells,rU,rS,or_false]at hc;subst hc;simp[rb1]
section
variable {H:List B} {k0:Nat}
def KB(H:List B)(k0:Nat)(xs:List V):List B:=H.set k0 (.buf 34 1 xs false)
theorem KB_at(h:k0<H.length)(xs:List V):(KB H k0 xs)[k0]?=some (.buf 34 1 xs false):=by
 unfold KB;rw[sA h]
theorem KB_set(xs xs':List V):(KB H k0 xs).set k0 (.buf 34 1 xs' false)=KB H k0 xs':=by
 unfold KB;rw[tC]
theorem qx(xs:List V):(KB H k0 xs).length=H.length:=by simp[KB]
theorem KB_rb(hH:∀bl∈H,rbB H.length bl)(m:List (List Int)):∀bl∈KB H k0 (liL m),rbB (KB H k0 (liL m)).length bl:=rbsZ hH (by rw[←mix0];exact mixL_rb _ _ _ _ _)
end
theorem ov{l:List (List Int)}{p:Nat}(hp:1≤p)(h:eAt l p=eAt l (p-1)):cpL l (p+1)=cpL l p:=by
 obtain⟨q,rfl⟩:∃q,p=q+1:=⟨p-1,by omega⟩;rw[cpL,if_pos (by simpa using h.symm)]
theorem cpL_no{l:List (List Int)}{p:Nat}(hp:1≤p)(h:¬eAt l p=eAt l (p-1)):cpL l (p+1)=cpL l p++[eAt l p]:=by
 obtain⟨q,rfl⟩:∃q,p=q+1:=⟨p-1,by omega⟩;rw[cpL,if_neg (by intro e;exact h (by simpa using e.symm))]
theorem cpL_pos(l:List (List Int)):∀p,1≤p→1≤(cpL l p).length
 | 0,h=>by omega
 | 1,_=>by simp[cpL]
 | p+2,_=>by
  have:=cpL_pos l (p+1) (by omega);rw[cpL];split
  ·exact this
  ·simp
structure CpL (l ys:List (List Int)) (kk p:Nat):Prop where
 lt:kk<p
 len:ys.length=l.length
 tk:ys.take kk=cpL l p
 kl:kk=(cpL l p).length
 hi:∀i,p-1≤i→eAt ys i=eAt l i
theorem CpL.start{l:List (List Int)}{k:Nat}(hk:1≤k)(hl:k<l.length)(h:cpL l k=l.take k)(he:eAt l k=eAt l (k-1)):CpL l l k (k+1):=
 ⟨by omega,rfl,by rw[ov hk he,h],by rw[ov hk he,h];simp;omega,fun _ _=>rfl⟩
theorem CpL.skip{l ys:List (List Int)}{kk p:Nat}(h:CpL l ys kk p)(hp:1≤p)(he:eAt l p=eAt l (p-1)):CpL l ys kk (p+1):=
 ⟨by have:=h.lt;omega,h.len,by rw[ov hp he];exact h.tk,by rw[ov hp he];exact h.kl,fun i hi=>h.hi i (by omega)⟩
theorem CpL.keep{l ys:List (List Int)}{kk p:Nat}(h:CpL l ys kk p)(hp:1≤p)(hpl:p<l.length)(he:¬eAt l p=eAt l (p-1)):CpL l (ys.set kk (eAt l p)) (kk+1) (p+1):=by
 have h1:=h.lt;have h2:=h.len;refine⟨by omega,by simp[h2],?_,by rw[cpL_no hp he];have:=h.kl;simp;omega,fun i hi=>?_⟩
 ·rw[cpL_no hp he,←h.tk,ff (by simp;omega),List.take_set_of_le (by omega)];congr 2;simp[eAt,show kk<ys.length by omega]
 ·rw[←h.hi i (by omega)];unfold eAt;simp only[List.getD_eq_getElem?_getD];rw[ry (by omega)]
theorem CpL.done{l ys:List (List Int)}{kk:Nat}(h:CpL l ys kk l.length)(h0:l≠[]):dq l=ys.take kk∧(dq l).length=kk:=by
 unfold dq;rw[if_neg h0];exact⟨h.tk.symm,h.kl.symm⟩
section
variable {H:List B} {k0:Nat}
theorem liL_fill(ys:List (List Int))(kk n:Nat)(hn:ys.length=n):uH kk (liL ys)++(rO (n-kk) V.nilS++vI n (liL ys))=iF (ys.take kk) (n-kk):=by
 unfold iF liL;rw[rR (by simp;omega),rj,tj]
theorem compactL_h(hk0:k0<H.length)(hH:∀bl∈H,rbB H.length bl)(l:List (List Int))(n:Nat)(hn:l.length=n)(hn2:n≤1000000)(hls:∀e∈l,e.length≤1000000):
  av Tryz.prog 138 [.buf k0 0 n n,.fn 35 []] (KB H k0 (liL l)) fun r H'=>r = .buf k0 0 (dq l).length n∧H'=KB H k0 (iF (dq l) (n-(dq l).length)):=by
 have g0:=KB_at hk0 (liL l);have hnl:=liL_len l
 have hea:∀i,(eAt l i).length≤1000000:=fun i=>by
  by_cases h:i<l.length
  ·rw[dO h];exact hls _ (rQ h)
  ·simp[eAt,show l.length≤i by omega]
 by_cases h2:n<2
 ·have hc:dq l=l:=by
   unfold dq
   match l,hn with
   | [],_=>rfl
   | [x],_=>rfl
   | _::_::_,hn=>simp at hn;omega
  rw[hc,hn,tg,mix0];refine aF tok Tryz.func138 rfl rfl ?_;refine wx ?_;simp -dsimp[Tryz.f138,rO,g0,hnl,hn,h2,show(n:Int)<2 by omega]
 ·have h0:l≠[]:=fun e=>by rw[e]at hn;simp at hn;omega
  obtain⟨R,hR⟩:∃R,R=iF (dq l) (n-(dq l).length):=⟨_,rfl⟩;obtain⟨m,hm⟩:∃m,m=(dq l).length:=⟨_,rfl⟩;rw[←hR,←hm];refine aF tok Tryz.func138 rfl rfl ?_;refine wx ?_;simp -dsimp[Tryz.f138,rO,g0,hnl,hn,h2,show ¬(n:Int)<2 by omega];refine aG (W_loopM 65 0x1fffffffffffff0f0 (by simp[mB]<;>rfl) (σ:=Nat) (fun k=>1≤k∧k≤n∧cpL l k=l.take k) (fun k=>n-k) (fun k=>[(5,.int .i64 k)]) (fun _=>KB H k0 (liL l)) 1 ⟨by omega,by omega,by rw[ff (k:=0) (by omega)];rfl⟩ (by simp) (by simp) (by simp[qx]) ?_);rintro k ⟨hk,hkn,hx⟩ N Q hN hQ;by_cases hb:k<n
  ·obtain⟨q,rfl⟩:∃q,k=q+1:=⟨k-1,by omega⟩
   have a1:=fun h=>mL (m:=l) (x:=q+1) h
   have a0:=fun h=>mL (m:=l) (x:=q) h
   have wq:IntKind.i64.wrap (((q:Int)+1)-1)=(q:Int):=by rw[wrap64 (by omega) (by omega)];omega
   have hq:q<n:=by omega
   have w2:IntKind.i64.wrap ((q:Int)+1+1)=(q:Int)+1+1:=wrap64 (by omega) (by omega);have c0:=equal64 (eAt l (q+1)) (eAt l q) false false (hea _) (hea _);obtain⟨x,hxx⟩:∃x,x=eAt l (q+1):=⟨_,rfl⟩;obtain⟨y,hyy⟩:∃y,y=eAt l q:=⟨_,rfl⟩;rw[←hxx]at a1;rw[←hyy]at a0;rw[←hxx,←hyy]at c0;simp only[L1]at c0;by_cases he:x=y
   ·rw[decide_eq_true he]at c0;refine wx ?_;simp -dsimp[g0,hnl,hn,hb,a1,a0,wq,hq,ai q (by omega),show(0:Int)≤(q:Int)+1 by omega,show(q:Int)+1<(n:Int) by omega];refine .inr ⟨aC (by kernel_rfl),?_⟩;refine aN _ (aK (c0) (by simp)) ?_;simp -dsimp[g0,hnl,hn,hkn,show(0:Int)≤(q:Int)+1 by omega,show ¬q+1=n by omega];refine aG (W_loopM 59 0x7ffffff000000a0 (by simp[mB]<;>rfl) (σ:=Nat×Nat×List (List Int)) (fun p=>1≤p.2.1∧q+1+p.2.1≤n∧CpL l p.2.2 p.1 (q+1+p.2.1)) (fun p=>n-p.2.1) (fun p=>[(5,.int .i64 p.1),(7,.int .i64 p.2.1),(6,.buf k0 (q+1) (n-(q+1)) n)]) (fun p=>KB H k0 (liL p.2.2)) (q+1,1,l) ⟨rd _,by show q+1+1≤n;omega,CpL.start (by omega) (by omega) hx (by rw[show q+1-1=q by omega,←hxx,←hyy];exact he)⟩ (by simp) (by simp) (by simp[qx]) ?_);rintro⟨kk,k2,ys⟩ ⟨i1,i2,I⟩ N2 Q2 hN2 hQ2;simp only at i1 i2 I hN2;have g1:=KB_at hk0 (liL ys);have ynl:=liL_len ys
    have yl:ys.length=n:=by rw[I.len,hn]
    have hlt:=I.lt;by_cases hb2:q+1+k2<n
    ·obtain⟨r,rfl⟩:∃r,k2=r+1:=⟨k2-1,by omega⟩;have c2:=equal64 (eAt l (q+1+(r+1))) (eAt l (q+1+r)) false false (hea _) (hea _);obtain⟨u,hu⟩:∃u,u=eAt l (q+1+(r+1)):=⟨_,rfl⟩;obtain⟨v,hv⟩:∃v,v=eAt l (q+1+r):=⟨_,rfl⟩
     have b1:=fun h=>mL (m:=ys) (x:=q+1+(r+1)) h
     have b0:=fun h=>mL (m:=ys) (x:=q+1+r) h
     rw[I.hi _ (by omega),←hu]at b1;rw[I.hi _ (by omega),←hv]at b0;rw[←hu,←hv]at c2;simp only[L1]at c2
     have wr:IntKind.i64.wrap (((r:Int)+1)-1)=(r:Int):=by rw[wrap64 (by omega) (by omega)];omega
     have wr1:IntKind.i64.wrap (r:Int)=(r:Int):=ai r (by omega);have wr2:IntKind.i64.wrap ((r:Int)+1+1)=(r:Int)+1+1:=wrap64 (by omega) (by omega);obtain⟨d,hd⟩:∃d,d=n-(q+1):=⟨_,rfl⟩;rw[←hd];by_cases huv:u=v
     ·rw[decide_eq_true huv]at c2;refine wx ?_;simp -dsimp[g1,ynl,yl,hb2,show q+1+r<n by omega,b1,b0,wr,wr1,wr2,show(r:Int)+1<(d:Int) by omega,show r+1<d by omega,show r<d by omega,show(0:Int)≤(r:Int)+1 by omega];refine .inr ⟨aC (by kernel_rfl),?_⟩;refine aN _ (aK (c2) (by simp)) ?_;simp -dsimp[wr2];refine hN2 (kk,r+1+1,ys) _ _ ⟨by simp only;omega,by simp only;omega,I.skip (by omega) (by rw[show q+1+(r+1)-1=q+1+r by omega,←hu,←hv];exact huv)⟩ (by simp only;omega) (by simp[hd]) ⟨[],by simp⟩ (by simp[qx];exact hk0) (KB_rb hH ys)
     ·rw[decide_eq_false huv]at c2
      have hkn2:kk<n:=by omega
      have c3:=fun h=>mL (m:=ys) (x:=kk) h
      have hst:=liL_set ys kk u;have hcs:=KB_set (H:=H) (k0:=k0) (liL ys) (liL (ys.set kk u));have wk:IntKind.i64.wrap ((kk:Int)+1)=(kk:Int)+1:=wrap64 (by omega) (by omega);have hI2:=I.keep (by omega) (by rw[hn];omega) (by rw[show q+1+(r+1)-1=q+1+r by omega,←hu,←hv];exact huv);rw[←hu]at hI2;refine wx ?_;simp -dsimp[g1,ynl,yl,hb2,show q+1+r<n by omega,b1,b0,wr,wr1,wr2,show(r:Int)+1<(d:Int) by omega,show r+1<d by omega,show r<d by omega,show(0:Int)≤(r:Int)+1 by omega];refine .inr ⟨aC (by kernel_rfl),?_⟩;refine aN _ (aK (c2) (by simp)) ?_;simp -dsimp[g1,ynl,yl,hb2,hkn2,b1,c3,hst,hcs,wk,wr2,show r+1<d by omega,show(r:Int)+1<(d:Int) by omega,show(0:Int)≤(r:Int)+1 by omega];refine hN2 (kk+1,r+1+1,ys.set kk u) _ _ ⟨by simp only;omega,by simp only;omega,hI2⟩ (by simp only;omega) (by simp[hd]) ⟨[],by simp⟩ (by simp[qx];exact hk0) (KB_rb hH _)
    ·obtain⟨d,hd⟩:∃d,d=n-(q+1):=⟨_,rfl⟩;rw[←hd]
     have hpn:q+1+k2=n:=by omega
     rw[hpn,←hn]at I;obtain⟨e1,e2⟩:=I.done h0
     have hmk:m=kk:=by rw[hm];exact e2
     have hkl:kk<n:=by have:=I.lt;omega
     have hfill:=liL_fill ys kk n yl;have hcs:=KB_set (H:=H) (k0:=k0) (liL ys) (iF (ys.take kk) (n-kk))
     have hRR:R=iF (ys.take kk) (n-kk):=by rw[hR,e2,e1]
     have hkp:1≤kk:=by rw[←e2];unfold dq;rw[if_neg h0];exact cpL_pos l l.length (by omega)
     have g2:=KB_at hk0 (iF (ys.take kk) (n-kk))
     have hRl:(iF (ys.take kk) (n-kk)).length=n:=by unfold iF;rw[ri,liL_len,tR,List.length_replicate];omega
     rw[←hRR]at hfill hcs g2 hRl;refine wx ?_;simp -dsimp[g1,ynl,yl,show ¬(k2:Int)<(d:Int) by omega,show ¬k2<d by omega];refine hQ2 _ _ _ ?_;simp -dsimp[g1,ynl,yl,hkl,show kk≤n by omega,show ¬kk=n by omega,hfill,hcs,g2,hRl,show ¬n-kk=0 by omega,show ¬0=kk by omega];refine hQ _ _ _ ?_;simp -dsimp[];exact hmk.symm
   ·rw[decide_eq_false he]at c0;refine wx ?_;simp -dsimp[g0,hnl,hn,hb,a1,a0,wq,hq,ai q (by omega),w2,show(0:Int)≤(q:Int)+1 by omega,show(q:Int)+1<(n:Int) by omega];refine .inr ⟨aC (by kernel_rfl),?_⟩;refine aN _ (aK (c0) (by simp)) ?_;simp -dsimp[w2];refine hN (q+1+1) _ _ ⟨by omega,by omega,by rw[cpL_no (by omega) (by rw[show q+1-1=q by omega,←hxx,←hyy];exact he),hx,ff (k:=q+1) (by omega)]⟩ (by omega) (by simp) ⟨[],by simp⟩ (by simp[qx];exact hk0) (KB_rb hH l)
  ·obtain rfl:k=n:=by omega
   refine wx ?_;simp -dsimp[g0,hnl,hn,hb];refine hQ _ _ _ ?_;simp -dsimp[]
   have hcl:dq l=l:=by
    unfold dq;rw[if_neg h0,hn,hx,←hn,sJ]
   rw[hm,hR,hcl,hn,tg,mix0];exact⟨rfl,rfl⟩
end
end
theorem W_frzB{P:Program}(k j:Nat){k0 e0 e z:Nat}{xs ys:List V}{fz:Bool}{c:Code}{Q:Exit→List V→List B→Prop}{fr:List V}{H:List B}(hne:k0≠k)(hk:H[k]?=some (.buf e z ys fz))(hk0:H[k0]?=some (.buf e0 1 xs false))(hj:xs[j]?=some (.buf k 0 ys.length ys.length))
  (h:W P c Q fr ((H.set k (.buf e z ys true)).set k0 (.buf e0 1 (xs.set j (.lst z false ys)) false))):W P c Q fr H:=by
 intro s a hA hg hf hd;obtain⟨rfl,hZ⟩:=hA;obtain⟨p1,p2,_⟩:=qJ hg hk;generalize hs1:s.frz k (.buf e z ys true)=s1 at p1 p2
 have hk1:s1.H[k0]?=some (.buf e0 1 xs false):=by rw[←hs1];simp only[St.frz];rw[ry (Ne.symm hne)];exact hk0
 have hr1:∀x y u,Rel s x u→(y=x∨(x = .buf k 0 ys.length ys.length∧y = .lst z false ys))→Rel s1 y u:=fun x y u h1 h2=>by subst hs1;exact ou hg hk h1 h2
 have hw1:s1.w=s.w:=by rw[←hs1];rfl
 have hφ:s1.φ k0=s.φ k0:=by rw[←hs1];rfl
 have hκ:s1.κ k0=s.κ k0:=by rw[←hs1];rfl
 obtain⟨vs,g2,g3,g4,g5,g6,g7⟩:=hg.blk k0 _ hk0
 have hκ0:s1.κ k0≠0:=by have:=aB hj;omega
 have hlv:=lvB hk1 hκ0;have hst:=cB (w:=s1.w) (bl':=.buf e0 1 (xs.set j (.lst z false ys)) false) p1 hk1 hlv (by simp[B.alike]) rfl rfl rfl (rd _) (fun _ _ _=>rfl)
 have hat:∀(i:Nat) y,(xs.set j (.lst z false ys))[i]?=some y→∃x,xs[i]?=some x∧(y=x∨(x = .buf k 0 ys.length ys.length∧y = .lst z false ys)):=fun i y hy=>by
  by_cases e1:j=i
  ·subst e1;rw[sA (aB hj)]at hy;exact⟨_,hj,.inr ⟨rfl,(Option.some.inj hy).symm⟩⟩
  ·rw[ry e1]at hy;exact⟨y,hy,.inl rfl⟩
 have hgd:AM.Good (s1.setB s1.w k0 (.buf e0 1 (xs.set j (.lst z false ys)) false)):=by
  refine cJ p1 hk1 hlv (by simp[B.alike]) rfl rfl rfl (rd _) (fun _ _ _=>rfl) (fun hst=>?_);refine⟨vs,fun _=>by show s1.w.heap[s1.φ k0]?=_;rw[hw1,hφ];exact g2 (by rw[←hκ];exact hκ0),?_,?_,?_,fun y hy=>?_,fun i y j' d u hy hd hu=>?_⟩
  ·show vs.size=s1.κ k0*1;rw[hκ];exact g3
  ·show _≤s1.κ k0;rw[hκ,se];exact g4
  ·show s1.κ k0≤_;rw[hκ];exact g5
  ·obtain⟨i,hi⟩:=List.mem_iff_getElem?.1 hy;obtain⟨x,hx,h9⟩:=hat i y hi
   rcases h9 with h9 | ⟨_,h9⟩
   ·rw[h9];exact g6 x (rW hx)
   ·rw[h9];exact⟨rfl,fun c hc=>by simp[V.cells]at hc;subst hc;rfl⟩
  ·obtain⟨x,hx,h9⟩:=hat i y hy
   rcases h9 with h9 | ⟨h8,h9⟩
   ·subst h9;exact(hr1 d d u (g7 i y j' d u hx hd hu) (.inl rfl)).step hst
   ·subst h9;subst h8
    have hj0:j'=0:=by have:=aB hd;simp[V.cells]at this;exact this
    subst hj0;simp[V.cells]at hd;subst hd;exact(hr1 _ _ u (g7 i _ 0 _ u hx rfl hu) (.inr ⟨rfl,rfl⟩)).step hst
 have hH:(s1.setB s1.w k0 (.buf e0 1 (xs.set j (.lst z false ys)) false)).H=(s.H.set k (.buf e z ys true)).set k0 (.buf e0 1 (xs.set j (.lst z false ys)) false):=by
  rw[←hs1];rfl
 have:=h (s1.setB s1.w k0 (.buf e0 1 (xs.set j (.lst z false ys)) false)) a ⟨hH,(hZ.step p2).step hst⟩ hgd ⟨by rw[hf.len],fun i v u hv hu=>(hr1 v v u (hf.rel i v u hv hu) (.inl rfl)).step hst⟩ hd;have e1:(s1.setB s1.w k0 (.buf e0 1 (xs.set j (.lst z false ys)) false)).w=s.w:=hw1;rw[e1]at this
 exact wp_mono this fun _ _ _ hl=>cK (p2.trans hst) hl
end
end Go.Proofs.YtjogkbekekdkjaaGreatDoor
namespace Go.AM
section
open Go
section
section
variable {P:Program} {T:Ty}
end
end
end
end Go.AM
