/- JM39: own texts of this seat, joined and shortened by pack4.py: PLa, UP. -/
import Derived.Test.YtdnhplencamncaaGreatDoorJM16
import Derived.Test.YtdnhplencamncaaGreatDoorJM38
set_option linter.unusedVariables false
set_option linter.unusedSimpArgs false
set_option maxRecDepth 100000
set_option maxHeartbeats 64000000
open List renaming take_succ_eq_append_getElem→oN,not_mem_nil→oO,mem_cons→oR,getElem?_map→oc,map_congr_left→oo,mem_singleton→pM,take_append_drop→pc,mem_append→qB,map_id→rt
open Option renaming map_some→pB,bind_some→qe
namespace Go.Proofs.YtdnhplencamncaaGreatDoor
section
open Go Go.AM
theorem chP_mem{id:Int}{tv:List Vl}{now:List Vl}{c:Chg} : ∀{a:Nat},c∈chP id tv a now→∃b,b<a∧c.row.vals=ah tv b now
 | 0,h=>by simp[chP]at h
 | a+1,h=>by
  rw[chP,qB]at h
  rcases h with h | h
  ·obtain⟨b,hb,e⟩:=chP_mem h;exact⟨b,by omega,e⟩
  ·split at h
   ·simp at h
   ·rw[pM]at h;subst h;exact⟨a,by omega,rfl⟩
theorem plan_mem{t u:Tb}(h:aG t=0)(hu:aG u=0)(hat:t.attrs.length=u.attrs.length)(hz:∀r∈t.rows,∀v∈r.vals,v.s.size≤maxLen)(hz2:∀r∈u.rows,∀v∈r.vals,v.s.size≤maxLen){c:Chg}(hc:c∈eY t u):c.row.vals.length≤1000000∧∀v∈c.row.vals,v.s.size≤maxLen:=by
 have hw:=(tbC h).wide;have ht:=ay h;have hu2:=ay hu;unfold eY at hc;rw[qB,qB]at hc
 rcases hc with hc | hc | hc
 ·obtain⟨r,hr,rfl⟩:=List.mem_map.1 hc;have hr:=(List.mem_filter.1 hr).1;have:=(ht r hr).2.1;exact⟨by simp only;omega,hz r hr⟩
 ·obtain⟨r,hr,hc⟩:=List.mem_flatMap.1 hc;unfold chR at hc;split at hc
  ·rename_i hin;obtain⟨b,hb,e⟩:=chP_mem hc;have h1:=(ht r hr).2.1;have h2:=(gK hin).2;have h3:=(hu2 _ h2).2.1;rw[e];exact⟨by rw[eZ];omega,nowF_sz (hz2 _ h2) (hz r hr) (by omega)⟩
  ·simp at hc
 ·obtain⟨r,hr,rfl⟩:=List.mem_map.1 hc;have hr:=(List.mem_filter.1 hr).1;have:=(hu2 r hr).2.1;exact⟨by simp only;omega,hz2 r hr⟩
theorem cln_to{nm:ByteArray}{c:Chg}(h:c.k=4∨(c.a=0∧c.v=vl0)):lU (cO nm c)=cO nm c:=by
 obtain⟨k,r,a,v⟩:=c;unfold lU cO;simp only at h ⊢
 rcases h with rfl | ⟨rfl,rfl⟩
 ·rfl
 ·split<;>rfl
theorem effL_of{l:List Ch}(h:∀c∈l,jc c=false∧lU c=c):cy l=l:=by
 unfold cy;rw[List.filter_eq_self.2 (fun c hc=>by rw[(h c hc).1];rfl)]
 conv=>rhs;rw[←rt l]
 exact oo fun c hc=>(h c hc).2
theorem chP_ne{id:Int}{tv now:List Vl}{c:Chg} : ∀{a:Nat},c∈chP id tv a now→c.k=4∧¬atV c.row.vals c.a.toNat=c.v
 | 0,h=>by simp[chP]at h
 | a+1,h=>by
  rw[chP,qB]at h
  rcases h with h | h
  ·exact chP_ne h
  ·split at h
   ·simp at h
   ·rename_i hn;rw[pM]at h;subst h;exact⟨rfl,by simpa using hn⟩
theorem eff_plan(t u:Tb)(nm:ByteArray):cy ((eY t u).map (cO nm))=(eY t u).map (cO nm):=by
 refine effL_of fun c hc=>?_
 obtain⟨d,hd,rfl⟩:=List.mem_map.1 hc;unfold eY at hd;rw[qB,qB]at hd
 rcases hd with hd | hd | hd
 ·obtain⟨r,_,rfl⟩:=List.mem_map.1 hd;exact⟨rfl,cln_to (.inr ⟨rfl,rfl⟩)⟩
 ·obtain⟨r,_,hd⟩:=List.mem_flatMap.1 hd;unfold chR at hd;split at hd
  ·obtain⟨h1,h2⟩:=chP_ne hd;refine⟨?_,cln_to (.inl h1)⟩;unfold jc cO;simp[h2]
  ·simp at hd
 ·obtain⟨r,_,rfl⟩:=List.mem_map.1 hd;exact⟨rfl,cln_to (.inr ⟨rfl,rfl⟩)⟩
theorem runT_take{t u:Tb}{l:List Ch}{i:Nat}(h:runT t l=some u)(hi:i<l.length):∃w w',runT t (l.take i)=some w∧av w l[i]=some w'∧runT t (l.take (i+1))=some w':=by
 have e:l=l.take (i+1)++l.drop (i+1):=(pc _ _).symm;have es:l.take (i+1)=l.take i++[l[i]]:=oN hi;rw[e,cj]at h
 cases hq:runT t (l.take (i+1)) with
 | none=>rw[hq]at h;cases h
 | some w' =>
  have hq2:=hq;rw[es,cj]at hq2
  cases hw:runT t (l.take i) with
  | none=>rw[hw]at hq2;cases hq2
  | some w =>
   rw[hw,qe,runT]at hq2
   cases hs:av w l[i] with
   | none=>rw[hs]at hq2;cases hq2
   | some x =>
    rw[hs]at hq2;simp only[runT]at hq2;exact⟨w,w',rfl,by rw[←hq2,hs],rfl⟩
theorem runT_valid{l:List Ch} : ∀{t u:Tb},aG t=0→runT t l=some u→aG u=0∧u.name=t.name∧u.attrs=t.attrs:=by
 induction l with
 | nil=>intro t u h1 h2;cases h2;exact⟨h1,rfl,rfl⟩
 | cons c l ih =>
  intro t u h1 h2;rw[runT]at h2
  cases hq:av t c with
  | none=>rw[hq]at h2;cases h2
  | some w =>
   rw[hq]at h2;obtain⟨a,b,d⟩:=et h1 hq;obtain⟨a',b',d'⟩:=ih a h2;exact⟨a',b'.trans b,d'.trans d⟩
theorem rel_toCh{s:AM.St}{nm:ByteArray}{l:List Chg}{f:Bool}{u:Value}(h:Rel s (LCh f nm l) u):Rel s (.lst 11 f ((l.map (cO nm)).map (aK false false))) u:=by
 refine rel_lst_le h (by simp) (fun y hy=>?_) (fun i x y hx hy j c hc=>?_)
 ·obtain⟨z,_,rfl⟩:=List.mem_map.1 hy;refine⟨rfl,fun c hc=>?_⟩;simp only[aK,chC,V.cells,oR,oO,or_false]at hc
  rcases hc with rfl | rfl | rfl | rfl | rfl | rfl | rfl | rfl | rfl | rfl | rfl<;>rfl
 ·rw[oc,oc]at hy;rw[oc]at hx
  cases hz:l[i]? with
  | none=>rw[hz]at hx;cases hx
  | some z =>
   rw[hz]at hx hy;simp only[pB,Option.some.injEq]at hx hy;subst hx;subst hy
   match j with
   | 0=>simp[aK,chC,cO,V.cells]at hc;subst hc;exact⟨_,rfl,.inl rfl⟩
   | 1=>simp[aK,chC,cO,V.cells]at hc;subst hc;exact⟨_,rfl,.inl rfl⟩
   | 2=>simp[aK,chC,cO,tb0,V.cells]at hc;subst hc;exact⟨_,rfl,.inl rfl⟩
   | 3=>simp[aK,chC,cO,tb0,V.cells]at hc;subst hc;exact⟨_,rfl,.inr (.inr ⟨1,rfl,rfl⟩)⟩
   | 4=>simp[aK,chC,cO,tb0,V.cells]at hc;subst hc;exact⟨_,rfl,.inr (.inr ⟨2,rfl,rfl⟩)⟩
   | 5=>simp[aK,chC,cO,V.cells]at hc;subst hc;exact⟨_,rfl,.inl rfl⟩
   | 6=>simp[aK,chC,cO,V.cells]at hc;subst hc;exact⟨_,rfl,.inl rfl⟩
   | 7=>simp[aK,chC,cO,V.cells]at hc;subst hc;exact⟨_,rfl,.inl rfl⟩
   | 8=>simp[aK,chC,cO,V.cells]at hc;subst hc;exact⟨_,rfl,.inl rfl⟩
   | 9=>simp[aK,chC,cO,V.cells]at hc;subst hc;exact⟨_,rfl,.inl rfl⟩
   | 10=>simp[aK,chC,cO,V.cells]at hc;subst hc;exact⟨_,rfl,.inl rfl⟩
   | j+11=>simp[aK,chC,V.cells]at hc
end
end Go.Proofs.YtdnhplencamncaaGreatDoor
