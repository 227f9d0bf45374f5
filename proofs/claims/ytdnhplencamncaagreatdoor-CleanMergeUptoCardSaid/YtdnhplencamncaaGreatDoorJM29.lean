/- JM29: own texts of this seat, joined and shortened by pack4.py: SO2, SO3, SoH. -/
import Derived.Test.YtdnhplencamncaaGreatDoorJM13
import Derived.Test.YtdnhplencamncaaGreatDoorJM16
import Derived.Test.YtdnhplencamncaaGreatDoorJM24
import Derived.Shelf.SlSortCmp.NoneTotal
set_option linter.unusedVariables false
set_option linter.unusedSimpArgs false
set_option maxRecDepth 100000
set_option maxHeartbeats 64000000
open Array renaming getElem?_toList→pV,length_toList→ph,getElem?_eq_getElem→pn,getElem_map→qO,eq_empty_of_size_eq_zero→qd,getElem_ofFn→rN,toList_map→re,size_map→rp
open Bool renaming or_eq_true→pW,not_eq_true'→pZ
open List renaming getElem_mem→oI,length_map→oW,getElem?_set_self→oX,getElem?_map→oc,ext_getElem?→pT,getElem?_set→qY,map_map→qu,set_set→rV
open Nat renaming le_refl→oJ,lt_of_lt_of_le→om,zero_add→pI,zero_mul→pz,add_zero→qH,mul_one→rO,le_add_right→rd
open Option renaming map_some→pB
section

end
namespace Go.Proofs.YtdnhplencamncaaGreatDoor
section
open Go Go.AM Go.RowKit Go.Lib Go.Sort
def aw(ls:List (List Int)):List (List Int):=ls.mergeSort fun x y=>!(ltOf cV) y x
theorem bg(l:List (List Int)):(aw l).Perm l:=List.mergeSort_perm _ _
theorem dP(l:List (List Int)):(aw l).length=l.length:=(bg l).length_eq
theorem swoI:SWO (ltOf cV) where
 irrefl x:=by unfold ltOf;exact decide_eq_false (jy x)
 trans x y z h g:=by unfold ltOf at *;exact decide_eq_true (gI _ _ _ (of_decide_eq_true h) (of_decide_eq_true g))
 ntrans x y z h g:=by unfold ltOf at *;exact decide_eq_false (lN (of_decide_eq_false h) (of_decide_eq_false g))
theorem totI(x y:List Int)(h:ltOf cV x y=false)(g:ltOf cV y x=false):x=y:=by
 unfold ltOf at *
 rcases cmpL_tri x y with h1 | h1 | h1
 ·exact absurd h1 (of_decide_eq_false h)
 ·exact h1
 ·exact absurd h1 (of_decide_eq_false g)
theorem sortLi_sorted(l:List (List Int)):(aw l).Pairwise fun x y=>¬cV y x<0:=by
 have:=List.pairwise_mergeSort (le:=fun x y=>!(ltOf cV) y x) (fun a b c h g=>by
  simp only[pZ,ltOf,decide_eq_false_iff_not]at *
  exact lN g h) (fun a b=>by
  simp only[pW,pZ,ltOf,decide_eq_false_iff_not];by_cases h:cV b a<0
  ·right;intro g;exact jy a (gI _ _ _ g h)
  ·exact .inl h) l
 refine this.imp fun {x y} h=>?_
 simpa[ltOf] using h
def AI(s:AM.St)(f:Bool):Type:={ p:List Int×Value // p.1.length≤1000000∧Rel s (L1 f p.1) p.2 }
instance (s:AM.St) (f:Bool):Inhabited (AI s f):=⟨⟨([],.slice none 0 0),by simp,by
 refine .lst 1 f [] none 0 0 0 (fun _ _=>undef) (oJ _) (fun _=>rfl) (fun h=>by simp at h) (by simp) (by simp) (by simp)⟩⟩
theorem AI.sl{s:AM.St}{f:Bool}{k e z:Nat}{xs:List V}(hk:s.H[k]?=some (.buf e z xs false))(hκ:s.κ k≠0)(a:AI s f):∃A cap,a.1.2 = .slice A a.1.1.length cap ∧
  ∀(i:Nat) (h:i<a.1.1.length),∃b o,A=some ⟨b,o,none⟩∧b≠s.φ k∧b<s.w.heap.size∧s.w.cell? ⟨b,o+i,none⟩=some (.int .i64 a.1.1[i]):=by
 obtain⟨⟨l,u⟩,hl,hr⟩:=a;simp only at hl hr ⊢;simp only[L1]at hr;generalize hxs:l.map aQ=ys at hr
 have hyl:ys.length=l.length:=by rw[←hxs];simp
 cases hr with
 | lst _ _ _ A cap b off uf hcap hfull hA hz hcell hrel =>
  refine⟨A,cap,by rw[hyl],fun i hi=>?_⟩;obtain⟨rfl,hP⟩:=hA (by omega)
  have hy:ys[i]?=some (aQ l[i]):=by rw[←hxs];simp[hi]
  refine⟨b,off,rfl,?_,hP.1,?_⟩
  ·intro he;obtain⟨e',z',xs',hb⟩:=hP.2.2 k (lvB hk hκ) he.symm;rw[hk]at hb;cases hb
  ·have h1:=hcell i _ 0 _ hy rfl;have h2:=hrel i _ 0 _ hy rfl;rw[qH,rO]at h1;generalize uf i 0=u at h1 h2;cases h2;exact h1
def gU{s:AM.St}{f:Bool}(a:AI s f):Value:=a.1.2
def cfAI{s:AM.St}{f:Bool}(a b:AI s f):Int:=cV a.1.1 b.1.1
theorem mZ{α β:Type} [Inhabited α] [Inhabited β] (f:α→β){n:Nat}{d d':Array α}(hn:d.size=n)(h:PermIn 0 n d d'):PermIn 0 n (d.map f) (d'.map f):=by
 obtain⟨h1,h2,h3⟩:=h;refine⟨by simp[h1],fun i hi=>?_,?_⟩
 ·rw[getElem!_neg _ _ (by simp;omega),getElem!_neg _ _ (by simp;omega)]
 ·have e1:(d.map f).extract 0 n=(d.extract 0 n).map f:=by simp
  have e2:(d'.map f).extract 0 n=(d'.extract 0 n).map f:=by simp
  rw[e1,e2,re,re];exact h3.map f
theorem jU{α β:Type} [Inhabited α] [Inhabited β] (f:α→β){lt:β→β→Bool}{n:Nat}{d:Array α}(hn:d.size=n)(h:SortedIn (fun x y=>lt (f x) (f y)) 0 n d):SortedIn lt 0 n (d.map f):=fun i j h1 h2 h3=>by
 have:=h i j h1 h2 h3
 have hj:j<d.size:=by omega
 have hi:i<d.size:=by omega
 rw[getElem!_pos d j hj,getElem!_pos d i hi]at this;rw[getElem!_pos (d.map f) j (by simpa using hj),getElem!_pos (d.map f) i (by simpa using hi),qO,qO];exact this
theorem layI1:SlLaysF.n6 Tryz.prog renI:={ layI with a24:=Tryz.isAgg106,z24:=Tryz.sizeOf106 }
def LBi(H:List B)(k e:Nat)(f:Bool)(ls:List (List Int)):List B:=H.set k (.buf e 1 (ls.map (L1 f)) false)
theorem sortLi_u{H:List B}{k e:Nat}{f:Bool}(ls:List (List Int))(n:Nat)(hn:ls.length=n)(hk:k<H.length)(hl:n<4611686018427387904)(hls:∀l∈ls,l.length≤1000000):
  aU Tryz.prog 47 [.buf k 0 n n,.fn 48 []] (LBi H k e f ls) fun r H'=>r = .tup []∧H'=LBi H k e f (aw ls):=by
 subst hn
 have hH:(LBi H k e f ls)[k]?=some (.buf e 1 (ls.map (L1 f)) false):=by unfold LBi;rw[oX hk]
 rw[show LBi H k e f (aw ls)=(LBi H k e f ls).set k (.buf e 1 ((aw ls).map (L1 f)) false) by unfold LBi;rw[rV]];generalize LBi H k e f ls=H at hH;refine⟨⟨Tryz.f47,Tryz.func47,rfl,rfl⟩,fun s vals hA hg hsz hrel=>?_⟩;obtain⟨rfl,hZ⟩:=hA
 obtain⟨u0,u1,rfl⟩:∃u0 u1,vals = #[u0,u1]:=by
  obtain⟨l⟩:=vals
  match l,hsz with
  | [a,b],_=>exact⟨a,b,rfl⟩
 have r0:=hrel 0 _ u0 rfl rfl;have r1:=hrel 1 _ u1 rfl rfl
 cases r1 with
 | fn _ _ us hul _ =>
 obtain rfl:us = #[]:=qd (by simpa using hul)
 cases r0 with
 | buf _ _ _ _ e2 z2 xs2 fz2 A n c hk2 ht hh =>
 rw[hH]at hk2;cases hk2;obtain⟨hA,rfl,hcap,_⟩:=hh (by simp);rw[pI]at hcap;by_cases h0:ls=[]
 ·subst h0;refine(AnyF.slices_SortFunc_none layI A c _ s.w).mono ?_;rintro e' w' ⟨rfl,rfl⟩;refine⟨_,s,.tup [],rfl,rfl,hg,Step.refl s,.tup [] #[] rfl (by simp),rfl,?_⟩;rw[show aw []=[] by simp[aw]];apply pT;intro i;rw[qY];split
  ·rename_i h;subst h;rw[if_pos (aB hH),hH]
  ·rfl
 ·have hpos:0<ls.length:=List.length_pos_iff.2 h0;obtain⟨vs,g2,g3,g4,g5,g6,g7⟩:=hg.blk k _ hH;rw[oW]at g4
  have hκ:s.κ k≠0:=by omega
  have hA:=hA hκ;subst hA;have g2:=g2 hκ;have hlt:=(hg.lt k (lvB hH hκ)).1
  have hel:∀i (h:i<ls.length),∃u,vs[i]?=some u∧Rel s (L1 f ls[i]) u:=fun i h=>by
   obtain⟨u,hu⟩:∃u,vs[i]?=some u:=⟨_,pn (show i<vs.size by omega)⟩;exact⟨u,hu,g7 i _ 0 _ u (show(ls.map (L1 f))[i]?=some (L1 f ls[i]) by simp[h]) rfl (by simpa using hu)⟩
  obtain⟨d,hds,hdl,hdv⟩:∃d:Array (AI s f),d.size=ls.length∧d.map (fun a=>a.1.1)=ls.toArray∧∀i,i<ls.length→vs[i]?=some (gU d[i]!):=by
   have hx:∀i:Fin ls.length,∃a:AI s f,a.1.1=ls[i]∧vs[i.1]?=some (gU a):=fun i=>by
    obtain⟨u,hu,hr⟩:=hel i.1 i.2;exact⟨⟨(ls[i],u),hls _ (oI _),hr⟩,rfl,hu⟩
   refine⟨Array.ofFn fun i=>Classical.choose (hx i),by simp,?_,fun i hi=>?_⟩
   ·apply Array.ext
    ·simp
    ·intro i h1 h2;simp only[qO,rN];have:=(Classical.choose_spec (hx ⟨i,by simpa using h2⟩)).1;rw[this];simp
   ·rw[getElem!_pos _ _ (by simpa using hi),rN];exact(Classical.choose_spec (hx ⟨i,hi⟩)).2
  have hOne:OneCell (gU (s:=s) (f:=f)):=fun a=>by
   obtain⟨A,cap,h1,_⟩:=AI.sl hH hκ a;unfold gU;rw[h1];rfl
  have hHo:Holds (gU:AI s f→Value) s.w (s.φ k) (0*1) d:=by
   intro t ht;rw[hds]at ht;refine⟨?_,?_⟩
   ·simp only[World.cell?,g2,pz,pI];simpa using hdv t ht
   ·simp[World.frozen?,g2]
  have hcmp:CmpLays1 Tryz.prog 48 #[] (gU:AI s f→Value) cfAI (s.φ k) (0*1) d.size s.w:=fun m os dk _ x y=>by
   obtain⟨A,ca,a1,a2⟩:=AI.sl hH hκ x;obtain⟨B,cb,b1,b2⟩:=AI.sl hH hκ y
   have hat:∀(A:Option Addr) (l:List Int),(∀(i:Nat) (h:i<l.length),∃b o,A=some ⟨b,o,none⟩∧b≠s.φ k∧b<s.w.heap.size∧s.w.cell? ⟨b,o+i,none⟩=some (.int .i64 l[i]))→
     AtI (sortWorld (gU:AI s f→Value) s.w (s.φ k) (0*1) m dk os) A l:=fun A l h i hi=>by
    obtain⟨b,o,h1,h2,h3,h4⟩:=h i hi
    have hc:∀t,(sortWorld (gU:AI s f→Value) s.w (s.φ k) (0*1) m dk os).cell? ⟨b,t,none⟩=s.w.cell? ⟨b,t,none⟩:=fun t=>by
     unfold sortWorld;rw[cell?_grow _ _ _ (by rw[Go.Proofs.size_putRow];exact h3),cell?_putRow_other _ _ _ _ _ _ (.inl h2)];rfl
    refine⟨b,o,h1,?_,by rw[hc];exact h4⟩;unfold sortWorld;rw[size_grow,Go.Proofs.size_putRow];exact om h3 (rd _ _)
   have:=compareIK x.1.1 y.1.1 A B ca cb (sortWorld (gU:AI s f→Value) s.w (s.φ k) (0*1) m dk os) (hat A _ a2) (hat B _ b2) x.2.1 y.2.1;rw[←a1,←b1]at this;exact this
  have hs:=Any.slices_SortFunc layI1 (gU:AI s f→Value) hOne cfAI ⟨fun x=>swoI.irrefl x.1.1,fun x y z=>swoI.trans x.1.1 y.1.1 z.1.1,fun x y z=>swoI.ntrans x.1.1 y.1.1 z.1.1⟩ 48 #[] (s.φ k) (0*1) c d s.w
   (fun args w=>rfl) hcmp hHo hlt (by rw[hds];simpa using hl)
  rw[hds]at hs;refine hs.mono ?_;rintro e' w' ⟨rfl,d',n,os,hp,hso,hw⟩;have hp2:=mZ (fun a:AI s f=>a.1.1) hds hp
  have hd':d'.size=ls.length:=by rw[hp.1];exact hds
  have hso2:=jU (lt:=ltOf cV) (fun a:AI s f=>a.1.1) hd' hso;rw[hdl]at hp2;have hu:=sorted_unique_holds swoI totI ls.toArray (d'.map fun a=>a.1.1) (by simpa using hp2) (by simpa using hso2)
  have hys:(aw ls).map (L1 f)=d'.toList.map fun a=>L1 f a.1.1:=by
   have:aw ls=(d'.map fun a=>a.1.1).toList:=by rw[hu];simp[aw]
   rw[this,re,qu];rfl
  have hw2:w'=grow (putRow id (Go.Sort.ahead s.w n) (s.φ k) 0 (d'.map gU)) os:=by
   rw[hw,pz];unfold sortWorld;rw[kU]
  rw[hys]
  obtain⟨f1,f2⟩:=ij (ys:=d'.toList.map fun a=>L1 f a.1.1) hg hH hκ (d'.map gU) n os (by simp[hd']) (by simp[hd'])
   (fun y hy=>by obtain⟨c,_,rfl⟩:=List.mem_map.1 hy;exact⟨rfl,by simp[L1,V.cells,V.one]⟩) (fun i y j dd hy hd=>by
    have hil:=aB hy;simp only[oW,ph]at hil
    have hj:j=0:=by
     rw[oc,pV,pn hil,pB]at hy;cases hy;have:=aB hd;simp[L1,V.cells]at this;omega
    subst hj;rw[oc,pV,pn hil,pB]at hy;cases hy
    have:dd=L1 f d'[i].1.1:=by simpa[L1,V.cells] using hd.symm
    subst this;rw[rO,qH,getElem!_pos _ _ (by simpa using hil),qO]
    exact d'[i].2.2) w' hw2
  exact⟨_,_,.tup [],rfl,rfl,f1,f2,.tup [] #[] rfl (by simp),rfl,rfl⟩
theorem hdK(a b:List Int)(A B:Option Addr)(ca cb:Nat)(W:World)(hA:AtI W A a)(hB:AtI W B b)(ha:0<a.length)(hb:0<b.length):
  Calls Tryz.prog 54 #[.slice A a.length ca,.slice B b.length cb] W fun e w'=>e = .returned (.int .i64 (bR (a.getD 0 0) (b.getD 0 0)))∧∃q os',w'=grow (W.drewN q) os':=by
 rw[show a.getD 0 0=a[0] by simp[ha],show b.getD 0 0=b[0] by simp[hb]];obtain⟨ba,oa,hAe,hba,ca0⟩:=hA 0 ha;obtain⟨bb,ob,hBe,hbb,cb0⟩:=hB 0 hb;subst hAe;subst hBe;generalize a[0]=x at ca0;generalize b[0]=y at cb0;rw[qH]at ca0 cb0
 have hc:=fun W=>cmpK64 x y W
 obtain⟨z,hz⟩:∃z,z=bR x y:=⟨_,rfl⟩;rw[←hz]at hc ⊢;clear hz hA hB
 go_enter Tryz.func54,Tryz.ntmps54
 go_wp2
 go_quiet ((go_at_call 55;exact Calls.quiet_of_same (hc _)))
 go_wp2
 go_ret
 exact⟨rfl,_,#[],by rw[grow_empty]⟩
theorem ni(x y:Int):decide (bR x y<0)=decide (x<y):=by
 unfold bR;by_cases h:x<y
 ·rw[if_pos h];simp[h]
 ·rw[if_neg h];split<;>simp[h]
theorem swoN:SWO (fun x y:List Int=>decide (bR (x.getD 0 0) (y.getD 0 0)<0)) where
 irrefl x:=by rw[ni];simp
 trans x y z h g:=by
  rw[ni,decide_eq_true_eq]at *;omega
 ntrans x y z h g:=by
  rw[ni,decide_eq_false_iff_not]at *;omega
theorem hd_lt{x y:List Int}(hx:0<x.length)(hy:0<y.length)(h:x.getD 0 0<y.getD 0 0):cV x y<0:=by
 cases x with
 | nil=>simp at hx
 | cons a x =>
 cases y with
 | nil=>simp at hy
 | cons b y =>
 simp at h;simp[cV,bR,h]
def AX(s:AM.St)(f:Bool)(ls:List (List Int)):Type:={ p:List Int×Value // p.1∈ls∧Rel s (L1 f p.1) p.2 }
def gT{s:AM.St}{f:Bool}{ls:List (List Int)}(a:AX s f ls):Value:=a.1.2
def cfAX{s:AM.St}{f:Bool}{ls:List (List Int)}(a b:AX s f ls):Int:=bR (a.1.1.getD 0 0) (b.1.1.getD 0 0)
theorem sortHd_u{H:List B}{k e:Nat}{f:Bool}(ls:List (List Int))(n:Nat)(hn:ls.length=n)(hk:k<H.length)(hl:n<4611686018427387904)(hls:∀l∈ls,l.length≤1000000)(hne:∀l∈ls,0<l.length)(hhd:∀x∈ls,∀y∈ls,x.getD 0 0=y.getD 0 0→x=y):
  aU Tryz.prog 47 [.buf k 0 n n,.fn 54 []] (LBi H k e f ls) fun r H'=>r = .tup []∧H'=LBi H k e f (aw ls):=by
 subst hn
 have hH:(LBi H k e f ls)[k]?=some (.buf e 1 (ls.map (L1 f)) false):=by unfold LBi;rw[oX hk]
 rw[show LBi H k e f (aw ls)=(LBi H k e f ls).set k (.buf e 1 ((aw ls).map (L1 f)) false) by unfold LBi;rw[rV]];generalize LBi H k e f ls=H at hH;refine⟨⟨Tryz.f47,Tryz.func47,rfl,rfl⟩,fun s vals hA hg hsz hrel=>?_⟩;obtain⟨rfl,hZ⟩:=hA
 obtain⟨u0,u1,rfl⟩:∃u0 u1,vals = #[u0,u1]:=by
  obtain⟨l⟩:=vals
  match l,hsz with
  | [a,b],_=>exact⟨a,b,rfl⟩
 have r0:=hrel 0 _ u0 rfl rfl;have r1:=hrel 1 _ u1 rfl rfl
 cases r1 with
 | fn _ _ us hul _ =>
 obtain rfl:us = #[]:=qd (by simpa using hul)
 cases r0 with
 | buf _ _ _ _ e2 z2 xs2 fz2 A n c hk2 ht hh =>
 rw[hH]at hk2;cases hk2;obtain⟨hA,rfl,hcap,_⟩:=hh (by simp);rw[pI]at hcap;by_cases h0:ls=[]
 ·subst h0;refine(AnyF.slices_SortFunc_none layI A c _ s.w).mono ?_;rintro e' w' ⟨rfl,rfl⟩;refine⟨_,s,.tup [],rfl,rfl,hg,Step.refl s,.tup [] #[] rfl (by simp),rfl,?_⟩;rw[show aw []=[] by simp[aw]];apply pT;intro i;rw[qY];split
  ·rename_i h;subst h;rw[if_pos (aB hH),hH]
  ·rfl
 ·have hpos:0<ls.length:=List.length_pos_iff.2 h0;obtain⟨vs,g2,g3,g4,g5,g6,g7⟩:=hg.blk k _ hH;rw[oW]at g4
  have hκ:s.κ k≠0:=by omega
  have hA:=hA hκ;subst hA;have g2:=g2 hκ;have hlt:=(hg.lt k (lvB hH hκ)).1
  have hel:∀i (h:i<ls.length),∃u,vs[i]?=some u∧Rel s (L1 f ls[i]) u:=fun i h=>by
   obtain⟨u,hu⟩:∃u,vs[i]?=some u:=⟨_,pn (show i<vs.size by omega)⟩;exact⟨u,hu,g7 i _ 0 _ u (show(ls.map (L1 f))[i]?=some (L1 f ls[i]) by simp[h]) rfl (by simpa using hu)⟩
  have hinh:Nonempty (AX s f ls):=by
   obtain⟨u,_,hr⟩:=hel 0 hpos;exact⟨⟨(ls[0],u),oI _,hr⟩⟩
  haveI:Inhabited (AX s f ls):=⟨Classical.choice hinh⟩
  have slx:=fun(a:AX s f ls)=>AI.sl hH hκ (⟨a.1,hls _ a.2.1,a.2.2⟩:AI s f)
  obtain⟨d,hds,hdl,hdv⟩:∃d:Array (AX s f ls),d.size=ls.length∧d.map (fun a=>a.1.1)=ls.toArray∧∀i,i<ls.length→vs[i]?=some (gT d[i]!):=by
   have hx:∀i:Fin ls.length,∃a:AX s f ls,a.1.1=ls[i]∧vs[i.1]?=some (gT a):=fun i=>by
    obtain⟨u,hu,hr⟩:=hel i.1 i.2;exact⟨⟨(ls[i],u),oI _,hr⟩,rfl,hu⟩
   refine⟨Array.ofFn fun i=>Classical.choose (hx i),by simp,?_,fun i hi=>?_⟩
   ·apply Array.ext
    ·simp
    ·intro i h1 h2;simp only[qO,rN];have:=(Classical.choose_spec (hx ⟨i,by simpa using h2⟩)).1;rw[this];simp
   ·rw[getElem!_pos _ _ (by simpa using hi),rN];exact(Classical.choose_spec (hx ⟨i,hi⟩)).2
  have hOne:OneCell (gT (s:=s) (f:=f) (ls:=ls)):=fun a=>by
   obtain⟨A,cap,h1,_⟩:=slx a;unfold gT;simp only at h1;rw[h1];rfl
  have hHo:Holds (gT:AX s f ls→Value) s.w (s.φ k) (0*1) d:=by
   intro t ht;rw[hds]at ht;refine⟨?_,?_⟩
   ·simp only[World.cell?,g2,pz,pI];simpa using hdv t ht
   ·simp[World.frozen?,g2]
  have hcmp:CmpLays1 Tryz.prog 54 #[] (gT:AX s f ls→Value) cfAX (s.φ k) (0*1) d.size s.w:=fun m os dk _ x y=>by
   obtain⟨A,ca,a1,a2⟩:=slx x;obtain⟨B,cb,b1,b2⟩:=slx y;simp only at a1 b1
   have hat:∀(A:Option Addr) (l:List Int),(∀(i:Nat) (h:i<l.length),∃b o,A=some ⟨b,o,none⟩∧b≠s.φ k∧b<s.w.heap.size∧s.w.cell? ⟨b,o+i,none⟩=some (.int .i64 l[i]))→
     AtI (sortWorld (gT:AX s f ls→Value) s.w (s.φ k) (0*1) m dk os) A l:=fun A l h i hi=>by
    obtain⟨b,o,h1,h2,h3,h4⟩:=h i hi
    have hc:∀t,(sortWorld (gT:AX s f ls→Value) s.w (s.φ k) (0*1) m dk os).cell? ⟨b,t,none⟩=s.w.cell? ⟨b,t,none⟩:=fun t=>by
     unfold sortWorld;rw[cell?_grow _ _ _ (by rw[Go.Proofs.size_putRow];exact h3),cell?_putRow_other _ _ _ _ _ _ (.inl h2)];rfl
    refine⟨b,o,h1,?_,by rw[hc];exact h4⟩;unfold sortWorld;rw[size_grow,Go.Proofs.size_putRow];exact om h3 (rd _ _)
   have:=hdK x.1.1 y.1.1 A B ca cb (sortWorld (gT:AX s f ls→Value) s.w (s.φ k) (0*1) m dk os) (hat A _ a2) (hat B _ b2) (hne _ x.2.1) (hne _ y.2.1);rw[←a1,←b1]at this;exact this
  have hs:=Any.slices_SortFunc layI1 (gT:AX s f ls→Value) hOne cfAX ⟨fun x=>swoN.irrefl x.1.1,fun x y z=>swoN.trans x.1.1 y.1.1 z.1.1,fun x y z=>swoN.ntrans x.1.1 y.1.1 z.1.1⟩ 54 #[] (s.φ k) (0*1) c d s.w
   (fun args w=>rfl) hcmp hHo hlt (by rw[hds];simpa using hl)
  rw[hds]at hs;refine hs.mono ?_;rintro e' w' ⟨rfl,d',n,os,hp,hso,hw⟩;have hp2:=mZ (fun a:AX s f ls=>a.1.1) hds hp
  have hd':d'.size=ls.length:=by rw[hp.1];exact hds
  have hso1:=jU (lt:=fun x y:List Int=>decide (bR (x.getD 0 0) (y.getD 0 0)<0)) (fun a:AX s f ls=>a.1.1) hd' hso
  have hso2:SortedIn (ltOf cV) 0 ls.length (d'.map fun a:AX s f ls=>a.1.1):=fun i j h1 h2 h3=>by
   have h4:=hso1 i j h1 h2 h3
   have hj:j<(d'.map fun a:AX s f ls=>a.1.1).size:=by rw[rp];omega
   have hi:i<(d'.map fun a:AX s f ls=>a.1.1).size:=by rw[rp];omega
   rw[getElem!_pos _ j hj,getElem!_pos _ i hi,qO,qO]at h4 ⊢;generalize d'[i]=x at h4 ⊢;generalize d'[j]=y at h4 ⊢;rw[decide_eq_false_iff_not]at h4;unfold ltOf;rw[decide_eq_false_iff_not]
   rcases Int.lt_trichotomy (x.1.1.getD 0 0) (y.1.1.getD 0 0) with q | q | q
   ·intro g;exact jy _ (gI _ _ _ g (hd_lt (hne _ x.2.1) (hne _ y.2.1) q))
   ·rw[hhd _ x.2.1 _ y.2.1 q];exact jy _
   ·exact absurd (by unfold bR;rw[if_pos q];decide) h4
  rw[hdl]at hp2;have hu:=sorted_unique_holds swoI totI ls.toArray (d'.map fun a=>a.1.1) (by simpa using hp2) (by simpa using hso2)
  have hys:(aw ls).map (L1 f)=d'.toList.map fun a=>L1 f a.1.1:=by
   have:aw ls=(d'.map fun a=>a.1.1).toList:=by rw[hu];simp[aw]
   rw[this,re,qu];rfl
  have hw2:w'=grow (putRow id (Go.Sort.ahead s.w n) (s.φ k) 0 (d'.map gT)) os:=by
   rw[hw,pz];unfold sortWorld;rw[kU]
  rw[hys]
  obtain⟨f1,f2⟩:=ij (ys:=d'.toList.map fun a=>L1 f a.1.1) hg hH hκ (d'.map gT) n os (by simp[hd']) (by simp[hd'])
   (fun y hy=>by obtain⟨c,_,rfl⟩:=List.mem_map.1 hy;exact⟨rfl,by simp[L1,V.cells,V.one]⟩) (fun i y j dd hy hd=>by
    have hil:=aB hy;simp only[oW,ph]at hil
    have hj:j=0:=by
     rw[oc,pV,pn hil,pB]at hy;cases hy;have:=aB hd;simp[L1,V.cells]at this;omega
    subst hj;rw[oc,pV,pn hil,pB]at hy;cases hy
    have:dd=L1 f d'[i].1.1:=by simpa[L1,V.cells] using hd.symm
    subst this;rw[rO,qH,getElem!_pos _ _ (by simpa using hil),qO]
    exact d'[i].2.2) w' hw2
  exact⟨_,_,.tup [],rfl,rfl,f1,f2,.tup [] #[] rfl (by simp),rfl,rfl⟩
end
end Go.Proofs.YtdnhplencamncaaGreatDoor
