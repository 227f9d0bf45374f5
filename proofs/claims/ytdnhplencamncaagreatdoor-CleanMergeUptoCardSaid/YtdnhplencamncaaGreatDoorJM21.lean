/- JM21: own texts of this seat, joined and shortened by pack4.py: Sl0, Sl, Sl2, Sl3, Cva, Cvb, Cvf, Cvg, ClL. -/
import Derived.Test.YtdnhplencamncaaGreatDoorJM19
import Derived.Test.YtdnhplencamncaaGreatDoorJM20
import Derived.WalkSpells
import Derived.WalkLawsBesides
import Derived.Lib.Hide
import Derived.Maps.AppendAt
set_option linter.unusedVariables false
set_option linter.unusedSimpArgs false
set_option maxRecDepth 100000
set_option maxHeartbeats 64000000
open Int renaming eq_ofNat_of_zero_le→pU,toNat_natCast→qP
open List renaming replicate→oE,getElem?_eq_getElem→oG,getElem_mem→oI,drop_eq_getElem_cons→oK,getElem?_append_left→oL,range→oM,take_succ_eq_append_getElem→oN,not_mem_nil→oO,getElem?_set_ne→oQ,mem_cons→oR,getElem?_append_right→oS,length_append→oT,append_nil→oU,drop_of_length_le→oV,length_map→oW,getElem?_set_self→oX,take_length→oY,getElem?_map→oc,map_append→oe,length_cons→og,append_assoc→oh,map_congr_left→oo,map_cons→oq,length_take→ot,mem_cons_self→ou,mem_cons_of_mem→ow,set_cons_zero→oz,take_of_length_le→pA,drop_zero→pC,set_cons_succ→pG,map_nil→pJ,getElem?_eq_none→pK,mem_singleton→pM,length_set→pN,ext_getElem?→pT,take_append_drop→pc,length_filter_le→pf,eq_of_mem_replicate→pi,getD_eq_getElem?_getD→pj,set_append_right→pt,mem_or_eq_of_mem_set→pu,range_succ→pv,ext_getElem→pw,filter_append→qC,length_nil→qD,mem_filter→qF,mem_range→qK,getElem_map→qM,getElem_range→qT,map_take→qf,length_mergeSort→qn,length_singleton→qp,map_map→qu,map_set→qw,getElem_set→rF,foldl_append→rW,foldl_cons→ri
open Nat renaming le_refl→oJ,zero_add→pI,lt_or_ge→pS,le_trans→pY,sub_self→px,min_eq_left→qE
namespace Go.Proofs.YtdnhplencamncaaGreatDoor
section
open Go Go.AM
section
def bG{α:Type}(L:Nat→α)(v:Nat)(l:α):Nat→α:=fun u=>if u=v then l else L u
theorem iB{α:Type}(L:Nat→α)(v:Nat)(l:α):bG L v l v=l:=if_pos rfl
theorem lX{α:Type}(L:Nat→α){v u:Nat}(l:α)(h:u≠v):bG L v l u=L u:=if_neg h
theorem jX{α:Type}(n v:Nat)(F:Nat→α)(y:α):((oM n).map F).set v y=(oM n).map (bG F v y):=by
 refine pw (by simp) (fun i h1 h2=>?_);rw[rF,qM,qM,qT];by_cases he:v=i
 ·rw[if_pos he,he,iB]
 ·rw[if_neg he,lX _ _ (fun h=>he h.symm)]
theorem updF_map{α β:Type}(f:α→β)(L:Nat→α)(v:Nat)(l:α):(fun u=>f (bG L v l u))=bG (fun u=>f (L u)) v (f l):=by
 funext u;unfold bG;split<;>rfl
def bfZ(l:List Int)(fz:Bool):B:=.buf 3 1 (czL l) fz
def NR(n:Nat)(F:Nat→V):List V:=(oM n).map F
def NH(e0 n:Nat)(F:Nat→V)(G:Nat→B)(tl:List B):List B:=.buf e0 1 (NR n F) false::((oM n).map G++tl)
def ow1(m:Nat→Nat)(v:Nat):V:=.buf (v+1) 0 (m v) (m v)
section
variable {e0 n:Nat} {F:Nat→V} {G:Nat→B} {tl:List B}
theorem NH_0:(NH e0 n F G tl)[0]?=some (.buf e0 1 (NR n F) false):=rfl
theorem NH_v{v:Nat}(h:v<n):(NH e0 n F G tl)[v+1]?=some (G v):=by
 show((oM n).map G++tl)[v]?=_;rw[oL (by simpa using h)];simp[h]
theorem NH_tl(i:Nat):(NH e0 n F G tl)[n+1+i]?=tl[i]?:=by
 rw[show n+1+i=n+i+1 by omega];show((oM n).map G++tl)[n+i]?=_;rw[oS (by simp)];simp
theorem NH_t0(b:B):(NH e0 n F G (b::tl))[n+1]?=some b:=NH_tl 0
theorem ep:(NH e0 n F G tl).length=n+1+tl.length:=by simp[NH];omega
theorem NH_app(b:B):NH e0 n F G tl++[b]=NH e0 n F G (tl++[b]):=by simp[NH]
theorem kI(v:Nat)(y:V):(NH e0 n F G tl).set 0 (.buf e0 1 ((NR n F).set v y) false)=NH e0 n (bG F v y) G tl:=by
 unfold NR;rw[jX];rfl
theorem dZ{v:Nat}(h:v<n)(b:B):(NH e0 n F G tl).set (v+1) b=NH e0 n F (bG G v b) tl:=by
 show _::(((oM n).map G++tl).set v b)=_;rw[List.set_append_left _ _ (by simpa using h),jX];rfl
theorem NH_sett(b c:B):(NH e0 n F G (b::tl)).set (n+1) c=NH e0 n F G (c::tl):=by
 show _::(((oM n).map G++b::tl).set n c)=_;rw[pt _ _ (by simp)];simp[NH]
theorem dV:(NR n F).length=n:=by simp[NR]
theorem kw{v:Nat}(h:v<(NR n F).length):(NR n F)[v]=F v:=by simp[NR]
theorem NR_at{v:Nat}(h:v<n):(NR n F)[v]?=some (F v):=by simp[NR,h]
theorem NH_rb(hF:∀v<n,∀c∈(F v).cells,rb (n+1+tl.length) c)(hG:∀v<n,rbB (n+1+tl.length) (G v))(ht:∀bl∈tl,rbB (n+1+tl.length) bl):∀bl∈NH e0 n F G tl,rbB (NH e0 n F G tl).length bl:=by
 rw[ep];intro bl hb;unfold NH at hb
 rcases List.mem_cons.1 hb with rfl | hb
 ·intro x hx c hc;obtain⟨v,hv,rfl⟩:=List.mem_map.1 hx;exact hF v (List.mem_range.1 hv) c hc
 rcases List.mem_append.1 hb with hb | hb
 ·obtain⟨v,hv,rfl⟩:=List.mem_map.1 hb;exact hG v (List.mem_range.1 hv)
 ·exact ht bl hb
end
theorem bfZ_rb(k:Nat)(l:List Int)(fz:Bool):rbB k (bfZ l fz):=jA _ _ _ _
theorem czL_app(l:List Int)(x:Int):czL l++[.int .i64 x]=czL (l++[x]):=by simp[czL,aQ]
def nbR(es:List (Nat×Nat))(v:Nat):List Int:=(es.filter fun p=>decide (p.1=v)).map fun p=>(p.2:Int)
def nbF(es:List (Nat×Nat))(v:Nat):List Int:=dK (cz (nbR es v))
theorem nbR_nil:nbR []=fun _=>[]:=rfl
theorem nbR_len(es:List (Nat×Nat))(v:Nat):(nbR es v).length≤es.length:=by
 unfold nbR;rw[oW];exact pf _ _
theorem nbR_succ{es:List (Nat×Nat)}{i:Nat}(h:i<es.length):nbR (es.take (i+1))=bG (nbR (es.take i)) es[i].1 (nbR (es.take i) es[i].1++[(es[i].2:Int)]):=by
 funext u;rw[oN h];unfold bG nbR;rw[qC,oe];by_cases hu:u=es[i].1
 ·subst hu;rw[if_pos rfl];simp
 ·rw[if_neg hu,List.filter_cons_of_neg (by simpa using Ne.symm hu)];simp
theorem W_frzNH{P:Program}{e0 n e z:Nat}{c:Code}{Q:Exit→List V→List B→Prop}{fr:List V}(ys:Nat→List V)(tl:List B)
  (h:W P c Q fr (NH e0 n (fun v=>.lst z false (ys v)) (fun v=>.buf e z (ys v) true) tl)):W P c Q fr (NH e0 n (fun v=>.buf (v+1) 0 (ys v).length (ys v).length) (fun v=>.buf e z (ys v) false) tl):=by
 have key:∀d i,i+d=n→W P c Q fr (NH e0 n (fun v=>if v<i then .lst z false (ys v) else .buf (v+1) 0 (ys v).length (ys v).length) (fun v=>if v<i then .buf e z (ys v) true else .buf e z (ys v) false) tl):=by
  intro d
  induction d with
  | zero =>
   intro i hi
   obtain rfl:i=n:=by omega
   have:NH e0 i (fun v=>if v<i then V.lst z false (ys v) else .buf (v+1) 0 (ys v).length (ys v).length) (fun v=>if v<i then B.buf e z (ys v) true else .buf e z (ys v) false) tl=NH e0 i (fun v=>.lst z false (ys v)) (fun v=>.buf e z (ys v) true) tl:=by
    unfold NH NR;rw[oo (f:=fun v=>if v<i then V.lst z false (ys v) else .buf (v+1) 0 (ys v).length (ys v).length) (g:=fun v=>.lst z false (ys v)) (fun v hv=>if_pos (List.mem_range.1 hv)),oo (f:=fun v=>if v<i then B.buf e z (ys v) true else .buf e z (ys v) false) (g:=fun v=>.buf e z (ys v) true) (fun v hv=>if_pos (List.mem_range.1 hv))]
   rw[this];exact h
  | succ d ih =>
   intro i hi;refine W_frzB (k:=i+1) (j:=i) (k0:=0) (e0:=e0) (e:=e) (z:=z) (xs:=NR n _) (ys:=ys i) (fz:=false) (by omega) (by rw[NH_v (by omega),if_neg (by omega)]) NH_0 (by rw[NR_at (by omega),if_neg (by omega)]) ?_;rw[dZ (by omega),kI]
   have e1:bG (fun v=>if v<i then V.lst z false (ys v) else .buf (v+1) 0 (ys v).length (ys v).length) i (.lst z false (ys i))=fun v=>if v<i+1 then V.lst z false (ys v) else .buf (v+1) 0 (ys v).length (ys v).length:=by
    funext v;unfold bG;by_cases hv:v=i
    ·subst hv;rw[if_pos rfl,if_pos (by omega)]
    ·rw[if_neg hv];by_cases h2:v<i
     ·simp only[if_pos h2,if_pos (show v<i+1 by omega)]
     ·simp only[if_neg h2,if_neg (show ¬v<i+1 by omega)]
   have e2:bG (fun v=>if v<i then B.buf e z (ys v) true else .buf e z (ys v) false) i (.buf e z (ys i) true)=fun v=>if v<i+1 then B.buf e z (ys v) true else .buf e z (ys v) false:=by
    funext v;unfold bG;by_cases hv:v=i
    ·subst hv;rw[if_pos rfl,if_pos (by omega)]
    ·rw[if_neg hv];by_cases h2:v<i
     ·simp only[if_pos h2,if_pos (show v<i+1 by omega)]
     ·simp only[if_neg h2,if_neg (show ¬v<i+1 by omega)]
   rw[e1,e2];exact ih (i+1) (by omega)
 have:=key n 0 (by omega);simpa using this
end
def nF(es:List (Nat×Nat))(i v:Nat):V:=if v<i then L1 false (nbF es v) else ow1 (fun v=>(nbR es v).length) v
def nG(es:List (Nat×Nat))(i v:Nat):B:=if v<i then bfZ (nbF es v++oE ((nbR es v).length-(nbF es v).length) 0) true else bfZ (nbR es v) false
theorem nF_succ(es:List (Nat×Nat))(i:Nat):nF es (i+1)=bG (nF es i) i (L1 false (nbF es i)):=by
 funext u;unfold bG nF;by_cases h:u=i
 ·subst h;rw[if_pos (by omega),if_pos rfl]
 ·rw[if_neg h];by_cases h2:u<i
  ·rw[if_pos h2,if_pos (by omega)]
  ·rw[if_neg h2,if_neg (by omega)]
theorem nG_succ(es:List (Nat×Nat))(i:Nat):nG es (i+1)=bG (nG es i) i (bfZ (nbF es i++oE ((nbR es i).length-(nbF es i).length) 0) true):=by
 funext u;unfold bG nG;by_cases h:u=i
 ·subst h;rw[if_pos (by omega),if_pos rfl]
 ·rw[if_neg h];by_cases h2:u<i
  ·rw[if_pos h2,if_pos (by omega)]
  ·rw[if_neg h2,if_neg (by omega)]
theorem updF_updF{α:Type}(L:Nat→α)(v:Nat)(a b:α):bG (bG L v a) v b=bG L v b:=by
 funext u;unfold bG;split<;>rfl
theorem nF_rb(es:List (Nat×Nat))(i n k:Nat)(h:n<k):∀v<n,∀c∈(nF es i v).cells,rb k c:=fun v hv c hc=>by
 unfold nF at hc;split at hc
 ·simp[L1,V.cells]at hc;subst hc;intro x hx;obtain⟨y,_,rfl⟩:=List.mem_map.1 hx;simp[aQ]
 ·simp[ow1,V.cells]at hc;subst hc;show v+1<k;omega
theorem nG_rb(es:List (Nat×Nat))(i k v:Nat):rbB k (nG es i v):=by unfold nG;split<;>exact bfZ_rb _ _ _
def nbV(n:Nat)(es:List (Nat×Nat)):V:=.lst 1 false (NR n fun v=>L1 false (nbF es v))
theorem gc(l:List Int):(cz l).length=l.length:=qn l
theorem neighbours_u(n:Nat)(es:List (Nat×Nat))(hn:n≤1000)(hl:es.length≤40000)(hv:∀p∈es,p.1<n):aJ Tryz.prog 98 [.int .i64 n,.lst 2 false (prM es)] fun r=>r=nbV n es:=by
 have hpl:=dW es;refine sPx Tryz.func98 rfl rfl ?_;simp -dsimp[Tryz.f98,oE,hpl,show 24*(n:Int)≤281474976710656 by omega,show(n:Int)≤9223372036854775807 by omega];refine aI (W_ownBs 3 1 n [] _ (k0:=0) (e0:=26) rfl (W_loopM 31 0x7fffe080 (by simp[mB]<;>rfl) (σ:=Nat) (fun i=>i≤es.length) (fun i=>es.length-i) (fun i=>[(13,.int .i64 i)]) (fun i=>NH 26 n (ow1 fun v=>(nbR (es.take i) v).length) (fun v=>bfZ (nbR (es.take i) v) false) []) 0 (by omega) (by simp) ?_ ?_ ?_))
 ·simp[NH,NR,ow1,bfZ,nbR_nil,czL,Function.comp_def,Nat.add_comm];exact pw (by simp) (fun i h1 h2=>by simp)
 ·intro i _;simp[ep]
 intro i hi N Q hN hQ;have wi:=aP i (by omega);by_cases hb:i<es.length
 ·have hsu:=nbR_succ hb;have hve:=hv _ (oI hb);have hle:=nbR_len (es.take i) es[i].1;rw[ot,qE (by omega)]at hle;obtain⟨p,hp⟩:∃p,p=es[i]:=⟨_,rfl⟩;rw[←hp]at hsu hve hle
  have hg:∀h,(prM es)[i]'h = .agg [.int .i64 p.1,.int .i64 p.2]:=fun h=>by simp[prM,dp,hp]
  obtain⟨L,hL⟩:∃L,L=nbR (es.take i):=⟨_,rfl⟩;obtain⟨L',hL'⟩:∃L',L'=nbR (es.take (i+1)):=⟨_,rfl⟩;rw[←hL,←hL']at hsu;rw[←hL]at hle ⊢;obtain⟨a,ha⟩:∃a,a=p.1:=⟨_,rfl⟩;obtain⟨b,hbb⟩:∃b,b=p.2:=⟨_,rfl⟩;rw[←ha,←hbb]at hg;rw[←ha]at hsu hve hle;rw[←hbb]at hsu;obtain⟨m,hm⟩:∃m,m=(L a).length:=⟨_,rfl⟩;rw[←hm]at hle
  have q0:=fun(F:Nat→V) (G:Nat→B) (tl:List B)=>NH_0 (e0:=26) (n:=n) (F:=F) (G:=G) (tl:=tl)
  have qa:=fun(F:Nat→V) (G:Nat→B) (tl:List B) (b:B)=>NH_app (e0:=26) (n:=n) (F:=F) (G:=G) (tl:=tl) b
  have ql:=fun(F:Nat→V) (G:Nat→B)=>ep (e0:=26) (n:=n) (F:=F) (G:=G) (tl:=[])
  have qt:=fun(F:Nat→V) (G:Nat→B) (b:B)=>NH_t0 (e0:=26) (n:=n) (F:=F) (G:=G) (tl:=[]) b
  have qst:=fun(F:Nat→V) (G:Nat→B) (b c:B)=>NH_sett (e0:=26) (n:=n) (F:=F) (G:=G) (tl:=[]) b c
  have qv:=fun(F:Nat→V) (G:Nat→B) (tl:List B)=>NH_v (e0:=26) (n:=n) (F:=F) (G:=G) (tl:=tl) hve
  have qsv:∀(F:Nat→V) (G:Nat→B) (tl:List B),(NH 26 n F G tl).set (a+1) (B.buf 3 1 (czL (L a++[(b:Int)])) false)=NH 26 n F (bG G a (B.buf 3 1 (czL (L a++[(b:Int)])) false)) tl:=fun(F:Nat→V) (G:Nat→B) (tl:List B)=>dZ (e0:=26) (n:=n) (F:=F) (G:=G) (tl:=tl) hve _
  have qs0:=fun(F:Nat→V) (G:Nat→B) (tl:List B)=>kI (e0:=26) (n:=n) (F:=F) (G:=G) (tl:=tl) a (.buf (a+1) 0 (m+1) (m+1))
  have rl:=fun(F:Nat→V)=>dV (n:=n) (F:=F)
  have rg:=fun(F:Nat→V) h=>kw (n:=n) (F:=F) (v:=a) h
  have hF:bG (ow1 fun v=>(L v).length) a (.buf (a+1) 0 (m+1) (m+1))=ow1 fun v=>(L' v).length:=by
   funext u;rw[hsu];unfold bG ow1;by_cases h:u=a
   ·subst h;simp[hm]
   ·simp[h]
  have hG:bG (fun v=>B.buf 3 1 (czL (L v)) false) a (B.buf 3 1 (czL (L a++[(b:Int)])) false)=fun v=>B.buf 3 1 (czL (L' v)) false:=by rw[hsu];exact(updF_map (fun l=>bfZ l false) L a _).symm
  have hcz:=czL_app (L a) (b:Int);have hcl:=(bo (L a)).trans hm.symm
  have hbf:∀l f,bfZ l f = .buf 3 1 (czL l) f:=fun _ _=>rfl
  have how:ow1 (fun v=>(L v).length) a = .buf (a+1) 0 m m:=by rw[hm];rfl
  refine wx ?_;simp -dsimp[hb,hpl,hg,q0,qa,ql,qt,qst,qv,qsv,qs0,rl,rg];refine aI (aX tok mixed [11,13] [(0,[1]),(1,[1]),(2,[1])] [] (by kernel_rfl) fun C K hC hK=>?_);simp -implicitDefEqProofs [hb,hpl,hg,q0,qa,ql,qt,qst,qv,qsv,qs0,rl,rg,how,hbf,hcz,hcl,hF,hG,hve,show m≤9223372036854775806 by omega,show(m+1)*8≤140737488355328 by omega];refine hK _ _ ?_;simp -dsimp[wi];refine hN (i+1) _ _ (by omega) (by omega) (by simp) ⟨[B.cells [.int .i64 (a:Int),.int .i64 (b:Int)]],?_⟩ ?_ ?_
  ·rw[←hL'];simp[NH,bfZ]
  ·simp[ep];exact dC es
  ·refine NH_rb (fun v hv c hc=>?_) (fun v hv=>bfZ_rb _ _ _) (by simp);simp[ow1,V.cells]at hc;subst hc;show v+1<_;omega
 ·obtain rfl:i=es.length:=by omega
  rw[oY]
  have hF0:(ow1 fun v=>(nbR es v).length)=nF es 0:=by funext v;unfold nF;rw[if_neg (by omega)]
  have hG0:(fun v=>bfZ (nbR es v) false)=nG es 0:=by funext v;unfold nG;rw[if_neg (by omega)]
  rw[hF0,hG0]
  have q0:=fun(F:Nat→V) (G:Nat→B) (tl:List B)=>NH_0 (e0:=26) (n:=n) (F:=F) (G:=G) (tl:=tl)
  have rl:=fun(F:Nat→V)=>dV (n:=n) (F:=F)
  refine wx ?_;simp -dsimp[hb,hpl];refine hQ _ _ _ ?_;simp -dsimp[q0,rl];refine aI (W_loopM 50 0x3fffe00000100 (by simp[mB]<;>rfl) (σ:=Nat) (fun i=>i≤n) (fun i=>n-i) (fun i=>[(33,.int .i64 i)]) (fun i=>NH 26 n (nF es i) (nG es i) []) 0 (by omega) (by simp) rfl (by intro i _;simp[ep]) ?_);intro i hi N2 Q2 hN2 hQ2;have wi2:=aP i (by omega);by_cases hb2:i<n
  ·have hFi:nF es i i = .buf (i+1) 0 (nbR es i).length (nbR es i).length:=by unfold nF;rw[if_neg (by omega)];rfl
   have hGi:nG es i i=bfZ (nbR es i) false:=by unfold nG;rw[if_neg (by omega)]
   have hFs:=nF_succ es i;have hGs:=nG_succ es i;have hml:=nbR_len es i;have hsl:=gc (nbR es i);have hnb:nbF es i=dK (cz (nbR es i)):=rfl;obtain⟨F,hF⟩:∃F,F=nF es i:=⟨_,rfl⟩;obtain⟨G,hG⟩:∃G,G=nG es i:=⟨_,rfl⟩;have hFrb:=nF_rb es i n (n+1+0) (by omega)
   have hGrb:=fun v=>nG_rb es i (n+1+0) v
   rw[←hF]at hFi hFs hFrb ⊢;rw[←hG]at hGi hGs hGrb ⊢;have hH:∀bl∈NH 26 n F G [],rbB (NH 26 n F G []).length bl:=NH_rb hFrb (fun v _=>hGrb v) (by simp);obtain⟨l,hl2⟩:∃l,l=nbR es i:=⟨_,rfl⟩;rw[←hl2]at hFi hGi hGs hml hsl hnb;obtain⟨m,hm⟩:∃m,m=l.length:=⟨_,rfl⟩;rw[←hm]at hFi hGs hml hsl
   have hcz:∀x,CZ (NH 26 n F G []) (i+1) x=NH 26 n F (bG G i (bfZ x false)) []:=fun x=>dZ hb2 _
   have c1:=sortI_u (H:=NH 26 n F G []) (k:=i+1) (e:=3) l m hm.symm (by omega) (by rw[NH_v hb2,hGi];rfl);rw[show(NH 26 n F G []).set (i+1) (.buf 3 1 ((cz l).map aQ) false)=NH 26 n F (bG G i (bfZ (cz l) false)) [] from dZ hb2 _]at c1;have c2:=nh (H:=NH 26 n F G []) (k0:=i+1) (by rw[ep];simp;omega) hH (cz l) m hsl (by omega);rw[hcz,hcz,←hnb]at c2
   have hkl:(nbF es i++oE (m-(nbF es i).length) 0).length=m:=by
    have:(dK (cz l)).length≤m:=by
     have:=lW (cz l) (cz l).length;unfold dK;omega
    rw[←hnb]at this;simp;omega
   have c3:=wcall_frz (k:=i+1) (e:=3) (z:=1) (n:=m) (xs:=czL (nbF es i++oE (m-(nbF es i).length) 0)) (fz:=false) c2 (by rw[NH_v hb2,iB];rfl) (by rw[bo];exact hkl)
   have htk:(czL (nbF es i++oE (m-(nbF es i).length) 0)).take (nbF es i).length=(nbF es i).map aQ:=by
    unfold czL;rw[←qf,List.take_left'];rfl
   have hst:(NH 26 n F (bG G i (bfZ (nbF es i++oE (m-(nbF es i).length) 0) false)) []).set (i+1) (.buf 3 1 (czL (nbF es i++oE (m-(nbF es i).length) 0)) true)=NH 26 n F (nG es (i+1)) []:=by
    rw[dZ hb2,updF_updF,hGs];rfl
   rw[htk,hst]at c3
   have rgi:=fun h=>kw (n:=n) (F:=F) (v:=i) h
   have qs0:=fun(G:Nat→B)=>kI (e0:=26) (n:=n) (F:=F) (G:=G) (tl:=[]) i (.lst 1 false ((nbF es i).map aQ))
   have hFs2:bG F i (.lst 1 false ((nbF es i).map aQ))=nF es (i+1):=hFs.symm;refine wx ?_;simp -dsimp[hb2,q0,rl,rgi,hFi];refine bF c1 ?_;rintro r H' ⟨rfl,rfl⟩;simp -dsimp[hb2,q0,rl,rgi,hFi];refine c3.mono ?_;rintro r H' ⟨rfl,rfl⟩;simp -dsimp[hb2,q0,rl,rgi,hFi,qs0,hFs2,wi2];refine hN2 (i+1) _ _ (by omega) (by omega) (by simp) ⟨[],by simp⟩ ?_ ?_
   ·simp[ep];exact dC es
   ·exact NH_rb (nF_rb es (i+1) n _ (by simp)) (fun v _=>nG_rb es (i+1) _ v) (by simp)
  ·obtain rfl:i=n:=by omega
   refine eo 0 [5] (e:=26) (z:=1) (xs:=NR i (nF es i)) (fz:=false) rfl (by simp[dM,dV]) ?_;refine wx ?_;simp -dsimp[hb2];refine hQ2 _ _ _ ?_;simp -dsimp[]
   have hNR:NR i (nF es i)=NR i fun v=>L1 false (nbF es v):=by
    unfold NR;refine oo (fun v hv=>?_);rw[qK]at hv;unfold nF;rw[if_pos hv]
   have hpu:∀x∈NR i fun v=>L1 false (nbF es v),AM.Pure x:=fun x hx=>by
    obtain⟨v,_,rfl⟩:=List.mem_map.1 hx;exact L1_pure _ _
   rw[hNR];exact⟨⟨rfl,hpu⟩,.lst _ _ _ hpu⟩
theorem me:∀(n:Nat) (o:List Int),o.Nodup→(∀x∈o,0≤x∧x<(n:Int))→o.length≤n
 | 0,o,_,h=>by
  cases o with
  | nil=>simp
  | cons a l=>have:=h a (ou ..);omega
 | n+1,o,hn,h=>by
  by_cases hm:(n:Int)∈o
  ·have h1:=me n (o.erase (n:Int)) (hn.erase _) (fun x hx=>by
    have h2:=h x (List.mem_of_mem_erase hx)
    have h3:x≠(n:Int):=fun e=>by subst e;exact(List.Nodup.not_mem_erase hn) hx
    omega)
   rw[List.length_erase_of_mem hm]at h1;omega
  ·have h1:=me n o hn (fun x hx=>by
    have h2:=h x hx
    have h3:x≠(n:Int):=fun e=>by subst e;exact hm hx
    omega)
   omega
def snB(n:Nat)(o:List Int):List V:=(oM n).map fun v:Nat=>V.bool (decide ((v:Int)∈o))
theorem snB_len(n:Nat)(o:List Int):(snB n o).length=n:=by simp[snB]
theorem lY{n:Nat}{o:List Int}{v:Nat}(h:v<(snB n o).length):(snB n o)[v] = .bool (decide ((v:Int)∈o)):=by simp[snB]
theorem snB_set(n:Nat)(o:List Int)(v:Nat):(snB n o).set v (.bool true)=snB n (o++[(v:Int)]):=by
 unfold snB;rw[jX];refine oo (fun u _=>?_);unfold bG;by_cases h:u=v
 ·subst h;simp
 ·rw[if_neg h];simp[show ¬(u:Int)=(v:Int) by omega]
theorem snB_nil(n:Nat):oE n (V.bool false)=snB n []:=by
 refine pw (by simp[snB]) (fun i h1 h2=>by simp[snB])
theorem snB_rb(k e n:Nat)(o:List Int)(fz:Bool):rbB k (.buf e 1 (snB n o) fz):=by simp[snB]
def vsJ:List Int→List Int→List Int
 | [],o=>o
 | x::r,o=>if x∈o then vsJ r o else vsJ r (o++[x])
def mN(R:List (List Int)):Nat→Nat→List Int→List Int
 | 0,_,o=>o
 | f+1,i,o=>if i<o.length then mN R f (i+1) (vsJ (R.getD (o.getD i 0).toNat []) o) else o
def visV(R:List (List Int))(v:Nat):List Int:=cz (mN R R.length 0 [(v:Int)])
structure VsOk (n:Nat) (o:List Int):Prop where
 nd:o.Nodup
 lt:∀x∈o,0≤x∧x<(n:Int)
theorem VsOk.len{n:Nat}{o:List Int}(h:VsOk n o):o.length≤n:=me n o h.nd h.lt
theorem VsOk.snoc{n:Nat}{o:List Int}(h:VsOk n o){x:Int}(hx:0≤x∧x<(n:Int))(hm:¬x∈o):VsOk n (o++[x]):=by
 refine⟨List.nodup_append.2 ⟨h.nd,by simp,fun a ha b hb=>?_⟩,fun y hy=>?_⟩
 ·rw[pM]at hb;subst hb;exact fun e=>hm (e▸ha)
 ·rcases List.mem_append.1 hy with hy | hy
  ·exact h.lt y hy
  ·rw[pM]at hy;subst hy;exact hx
theorem VsOk.one{n v:Nat}(h:v<n):VsOk n [(v:Int)]:=⟨by simp,fun x hx=>by rw[pM]at hx;subst hx;omega⟩
theorem VsOk.vsJ{n:Nat} : ∀{r o:List Int},VsOk n o→(∀x∈r,0≤x∧x<(n:Int))→VsOk n (vsJ r o)
 | [],o,h,_=>h
 | x::r,o,h,hr=>by
  rw[Go.Proofs.YtdnhplencamncaaGreatDoor.vsJ];split
  ·exact VsOk.vsJ h (fun y hy=>hr y (ow _ hy))
  ·rename_i hm;exact VsOk.vsJ (h.snoc (hr x (ou ..)) hm) (fun y hy=>hr y (ow _ hy))
theorem vsJ_ge:∀(r o:List Int),o.length≤(vsJ r o).length
 | [],o=>oJ _
 | x::r,o=>by
  rw[vsJ];split
  ·exact vsJ_ge r o
  ·have:=vsJ_ge r (o++[x]);simp at this;omega
theorem capN8(n:Nat)(h:n≤1000000000):n≤9223372036854775806∧(n+1)*8≤140737488355328:=by omega
def LLz(f:Bool)(R:List (List Int)):V:=.lst 1 f (R.map (L1 false))
@[simp] theorem LLz_pure (f:Bool) (R:List (List Int)):AM.Pure (LLz f R):=.lst _ _ _ (fun x hx=>by obtain⟨l,_,rfl⟩:=List.mem_map.1 hx;exact L1_pure _ _)
structure RwsOk (n:Nat) (R:List (List Int)):Prop where
 len:R.length=n
 n1:n≤1000
 row:∀r∈R,r.length≤1000000∧∀x∈r,0≤x∧x<(n:Int)
theorem visit_u(R:List (List Int))(n v:Nat)(f:Bool)(h:RwsOk n R)(hv:v<n):aJ Tryz.prog 101 [LLz f R,.int .i64 v] fun r=>r=L1 false (visV R v):=by
 obtain⟨hRl,hn1,hrow⟩:=h;obtain⟨X,hX⟩:∃X,X=mN R n 0 [(v:Int)]:=⟨_,rfl⟩
 have hXV:visV R v=cz X:=by unfold visV;rw[hRl,←hX]
 rw[hXV];have s0:=snB_nil n
 have sl:=fun o=>snB_len n o
 have sg:=fun o h=>lY (n:=n) (o:=o) (v:=v) h
 have ss:=snB_set n [] v
 have v0:∀h,(snB n [])[v]'h = .bool false:=fun h=>by rw[sg];simp
 simp only[LLz];refine au (aE tok Tryz.func101 rfl rfl ?_);refine fh (W_x tok mixed ?_);simp -dsimp[Tryz.f101,oE];refine fh (W_x tok mixed ?_);simp -dsimp[hRl,s0,show(n:Int)≤281474976710656 by omega,show(n:Int)≤9223372036854775807 by omega];refine fh (W_x tok mixed ?_);simp -dsimp[sl,hv,v0,ss];refine fh (W_regionO2 tok (t:=26) (len:=1) (v:=.buf 1 0 1 1) (H':=[.buf 4 1 (snB n [(v:Int)]) false,.buf 3 1 [.int .i64 (v:Int)] false]) rfl rfl rfl rfl rfl (by simp[iR]) ?_);simp;refine wx ?_;simp -dsimp[];refine aI (W_loopM 49 0x1fffffffc02c0 (by simp[mB]<;>rfl) (σ:=Nat×List Int) (fun p=>VsOk n p.2∧p.1≤p.2.length∧mN R (n-p.1) p.1 p.2=X) (fun p=>n+1-p.1) (fun p=>[(7,.int .i64 p.1),(6,.buf 1 0 p.2.length p.2.length)]) (fun p=>[B.buf 4 1 (snB n p.2) false,B.buf 3 1 (czL p.2) false]) (0,[(v:Int)]) ⟨VsOk.one hv,by simp,hX.symm⟩ (by simp) (by simp[czL,aQ]) (by simp) ?_);rintro⟨i,o⟩ ⟨ho,hi,hx⟩ N Q hN hQ;simp only at ho hi hx;have hol:=ho.len;have hcl:=bo o;have wi:=aP i (by omega);by_cases hb:i<o.length
 ·rw[show n-i=(n-(i+1))+1 by omega,mN,if_pos hb]at hx;have hlt:=ho.lt o[i] (oI hb)
  have hgd:o.getD i 0=o[i]:=by simp[hb]
  obtain⟨k,hk⟩:=pU hlt.1
  have hkn:k<n:=by omega
  have hkR:k<R.length:=by omega
  rw[hgd,hk,qP,show R.getD k []=R[k] by simp[hkR]]at hx
  have hog:∀h,(czL o)[i]'h = .int .i64 (k:Int):=fun h=>by simp[czL,aQ,hk]
  obtain⟨hrl,hrr⟩:=hrow R[k] (oI hkR);obtain⟨r,hr⟩:∃r,r=R[k]:=⟨_,rfl⟩;rw[←hr]at hx hrl hrr;obtain⟨U,hU⟩:∃U,U=vsJ r o:=⟨_,rfl⟩;rw[←hU]at hx
  have hiU:i+1≤U.length:=by have:=vsJ_ge r o;rw[hU];omega
  refine wx ?_;simp -dsimp[hb,hcl,hog,hkR,hr.symm,L1];refine aI (W_loopM 49 0x1ffff00000240 (by simp[mB]<;>rfl) (σ:=Nat×List Int) (fun p=>p.1≤r.length∧VsOk n p.2∧vsJ (r.drop p.1) p.2=U) (fun p=>r.length-p.1) (fun p=>[(32,.int .i64 p.1),(6,.buf 1 0 p.2.length p.2.length)]) (fun p=>[B.buf 4 1 (snB n p.2) false,B.buf 3 1 (czL p.2) false]) (0,o) ⟨by simp,ho,hU.symm⟩ (by simp) rfl (by simp) ?_);rintro⟨j,u⟩ ⟨hj,hu,hy⟩ N2 Q2 hN2 hQ2;simp only at hj hu hy;have wj:=aP j (by omega);have hul:=hu.len;have hclu:=bo u;by_cases hbj:j<r.length
  ·rw[oK hbj,vsJ]at hy;have hlt2:=hrr r[j] (oI hbj);obtain⟨w,hw⟩:=pU hlt2.1
   have hwn:w<n:=by omega
   have hrg:r[j]=(w:Int):=hw;rw[hrg]at hy
   have sgw:=fun h=>lY (n:=n) (o:=u) (v:=w) h
   by_cases hm:(w:Int)∈u
   ·rw[if_pos hm]at hy;rw[decide_eq_true hm]at sgw;refine wx ?_;simp -dsimp[hbj,hrg,aQ,sl,sgw,hwn,wj];refine hN2 (j+1,u) _ _ ⟨by simp only;omega,hu,hy⟩ (by simp only;omega) (by simp) ⟨[],rfl⟩ (by simp[aQ]) (fun bl hbl=>by simp only[oR,oO,or_false]at hbl;rcases hbl with rfl | rfl;exact snB_rb _ _ _ _ _;exact jA _ _ _ _)
   ·rw[if_neg hm]at hy;rw[decide_eq_false hm]at sgw;have ssw:=snB_set n u w;have hca:=czL_app u (w:Int);have hu1:=hu.snoc ⟨by omega,by omega⟩ hm;have hul1:=hu1.len;rw[oT,qp]at hul1;have cap:=capN8 u.length (by omega);refine wx ?_;simp -dsimp[hbj,hrg,aQ,sl,sgw,hwn,wj,ssw,hca,hclu,cap.1,cap.2];refine hN2 (j+1,u++[(w:Int)]) _ _ ⟨by simp only;omega,hu1,hy⟩ (by simp only;omega) (by simp) ⟨[],rfl⟩ (by simp[aQ]) (fun bl hbl=>by simp only[oR,oO,or_false]at hbl;rcases hbl with rfl | rfl;exact snB_rb _ _ _ _ _;exact jA _ _ _ _)
  ·rw[oV (by omega),vsJ]at hy;subst hy;refine wx ?_;simp -dsimp[hbj];refine hQ2 _ _ _ ?_;simp -dsimp[wi];refine hN (i+1,u) _ _ ⟨hu,hiU,hx⟩ (by simp only;omega) (by simp) ⟨[],rfl⟩ (by simp) (fun bl hbl=>by simp only[oR,oO,or_false]at hbl;rcases hbl with rfl | rfl;exact snB_rb _ _ _ _ _;exact jA _ _ _ _)
 ·have hoX:o=X:=by
   rw[←hx]
   cases hn:n-i with
   | zero=>rw[mN]
   | succ m=>rw[mN,if_neg hb]
  have cs:=sortI_u (H:=[B.buf 4 1 (snB n o) false,B.buf 3 1 (czL o) false]) (k:=1) (e:=3) o o.length rfl (by omega) rfl;simp only[pG,oz]at cs;subst hoX;refine wx ?_;simp -dsimp[hb,hcl];refine hQ _ _ _ ?_;simp -dsimp[];refine bF cs ?_;rintro r H' ⟨rfl,rfl⟩;simp -dsimp[]
  have hp:∀x∈(cz o).map aQ,AM.Pure x:=fun x hx=>by obtain⟨y,_,rfl⟩:=List.mem_map.1 hx;simp[aQ]
  exact kg (by rw[oW,gc]) rfl hp
theorem srtZ_mem{l:List Int}{x:Int} : x∈cz l↔x∈l:=(List.mergeSort_perm l _).mem_iff
theorem zAt_mem{l:List Int}{p:Nat}(h:p<l.length):zAt l p∈l:=by
 rw[←zAt_in h];exact oI _
theorem zpF_mem{l:List Int}{x:Int} : ∀{p:Nat},p≤l.length→x∈zpF l p→x∈l
 | 0,_,h=>by simp[zpF]at h
 | 1,hp,h=>by
  simp[zpF]at h;subst h;exact zAt_mem (by omega)
 | p+2,hp,h=>by
  rw[zpF]at h;split at h
  ·exact zpF_mem (by omega) h
  ·rcases List.mem_append.1 h with h | h
   ·exact zpF_mem (by omega) h
   ·rw[pM]at h;subst h;exact zAt_mem (by omega)
@[simp] theorem prM_pureI (l:List (Nat×Nat)):(∀x∈prM l,AM.Pure x)↔True:=iff_true_intro (dC l)
theorem nbF_mem{es:List (Nat×Nat)}{v:Nat}{x:Int}(h:x∈nbF es v):∃p∈es,p.1=v∧(p.2:Int)=x:=by
 have h1:=srtZ_mem.1 (zpF_mem (oJ _) h);obtain⟨p,hp,e⟩:=List.mem_map.1 h1;rw[qF]at hp;exact⟨p,hp.1,by simpa using hp.2,e⟩
theorem nbF_len(es:List (Nat×Nat))(v:Nat):(nbF es v).length≤es.length:=by
 have h1:=lW (cz (nbR es v)) (cz (nbR es v)).length;rw[gc]at h1;have:=nbR_len es v;unfold nbF dK;rw[gc];omega
def nbL(n:Nat)(es:List (Nat×Nat)):List (List Int):=(oM n).map (nbF es)
theorem nbV_eq(n:Nat)(es:List (Nat×Nat)):nbV n es=LLz false (nbL n es):=by simp[nbV,LLz,NR,nbL]
theorem nbL_ok{n:Nat}{es:List (Nat×Nat)}(hn:n≤1000)(hl:es.length≤1000000)(h:∀p∈es,p.2<n):RwsOk n (nbL n es):=by
 refine⟨by simp[nbL],hn,fun r hr=>?_⟩;obtain⟨v,_,rfl⟩:=List.mem_map.1 hr;refine⟨pY (nbF_len es v) hl,fun x hx=>?_⟩;obtain⟨p,hp,_,e⟩:=nbF_mem hx;have:=h p hp;omega
theorem visF_ok{R:List (List Int)}{n:Nat}(h:RwsOk n R):∀{f i:Nat} {o:List Int},VsOk n o→VsOk n (mN R f i o)
 | 0,i,o,ho=>ho
 | f+1,i,o,ho=>by
  rw[mN];split
  ·rename_i hi;have hlt:=ho.lt o[i] (oI hi)
   have hk:(o.getD i 0).toNat<R.length:=by rw[h.len,show o.getD i 0=o[i] by simp[hi]];omega
   refine visF_ok h (ho.vsJ ?_);rw[show R.getD (o.getD i 0).toNat []=R[(o.getD i 0).toNat] by rw[pj,oG hk];rfl];exact(h.row _ (oI hk)).2
  ·exact ho
theorem visV_ok{R:List (List Int)}{n v:Nat}(h:RwsOk n R)(hv:v<n):VsOk n (visV R v):=by
 have h1:=visF_ok h (f:=R.length) (i:=0) (VsOk.one hv);exact⟨(List.mergeSort_perm _ _).nodup_iff.2 h1.nd,fun x hx=>h1.lt x (srtZ_mem.1 hx)⟩
def cpF(R:List (List Int)):List Nat→List (List Int)→List (List Int)
 | [],o=>o
 | v::vs,o=>if(v:Int)∈o.flatten then cpF R vs o else cpF R vs (o++[visV R v])
def cpV(n:Nat)(es:List (Nat×Nat)):List (List Int):=cpF (nbL n (es++es.map swP)) (oM n) []
theorem cpF_ok{R:List (List Int)}{n:Nat}(h:RwsOk n R):∀{vs:List Nat} {o:List (List Int)},(∀v∈vs,v<n)→(∀l∈o,VsOk n l)→(∀l∈cpF R vs o,VsOk n l)∧(cpF R vs o).length≤o.length+vs.length
 | [],o,_,ho=>⟨ho,by simp[cpF]⟩
 | v::vs,o,hv,ho=>by
  rw[cpF];split
  ·obtain⟨h1,h2⟩:=cpF_ok h (vs:=vs) (o:=o) (fun x hx=>hv x (ow _ hx)) ho;exact⟨h1,by simp;omega⟩
  ·obtain⟨h1,h2⟩:=cpF_ok h (vs:=vs) (o:=o++[visV R v]) (fun x hx=>hv x (ow _ hx)) (fun l hl=>by
    rcases List.mem_append.1 hl with hl | hl
    ·exact ho l hl
    ·rw[pM]at hl;subst hl;exact visV_ok h (hv v (ou ..)))
   refine⟨h1,?_⟩;rw[oT,qp]at h2;simp;omega
theorem components_u(n:Nat)(es:List (Nat×Nat))(hn:n≤1000)(hl:es.length≤20000)(hv:∀p∈es,p.1<n∧p.2<n):aJ Tryz.prog 45 [.int .i64 n,.lst 2 false (prM es)] fun r=>r = .tup [LLz false (cpV n es),.int .i64 0]:=by
 have c1:=gvalid_u n es hn hl
 have hg:gvE n es=0:=by
  unfold gvE;rw[if_neg (by omega),if_neg];intro ha;obtain⟨p,hp,h1⟩:=List.any_eq_true.1 ha;have:=hv p hp;unfold outP at h1;simp at h1;omega
 rw[hg]at c1;have c2:=reversed_u es hl
 have c3:=concat_E [⟨false,prM es⟩,⟨false,prM (es.map swP)⟩] true (by
  intro l hl2 x hx;simp only[oR,oO,or_false]at hl2
  have:∃p,x=dp p:=by
   rcases hl2 with rfl | rfl
   ·obtain⟨p,_,e⟩:=List.mem_map.1 hx;exact⟨p,e.symm⟩
   ·obtain⟨p,_,e⟩:=List.mem_map.1 hx;exact⟨p,e.symm⟩
  obtain⟨p,rfl⟩:=this
  simp[dp,cT,V.cells,V.one]) (by simp) (by simp[cN,dW];omega)
 have hcat:cN [⟨false,prM es⟩,⟨false,prM (es.map swP)⟩]=prM (es++es.map swP):=by simp[cN,prM]
 rw[hcat]at c3;obtain⟨E,hE⟩:∃E,E=es++es.map swP:=⟨_,rfl⟩
 have hEl:E.length≤40000:=by rw[hE];simp;omega
 have hEv:∀p∈E,p.1<n∧p.2<n:=fun p hp=>by
  rw[hE]at hp
  rcases List.mem_append.1 hp with hp | hp
  ·exact hv p hp
  ·obtain⟨q,hq,rfl⟩:=List.mem_map.1 hp;have:=hv q hq;exact⟨this.2,this.1⟩
 have c4:=neighbours_u n E hn hEl (fun p hp=>(hEv p hp).1);have hR:=nbL_ok (n:=n) (es:=E) hn (by omega) (fun p hp=>(hEv p hp).2);obtain⟨C,hC⟩:∃C,C=cpV n es:=⟨_,rfl⟩;have hCd:=hC;unfold cpV at hCd;rw[←hE]at hCd c3;rw[←hC];rw[nbV_eq]at c4;obtain⟨R,hRR⟩:∃R,R=nbL n E:=⟨_,rfl⟩;rw[←hRR]at hCd hR c4;have s0:=snB_nil n
 have sl:=fun o=>snB_len n o
 have cvis:=fun v h=>visit_u R n v false hR h
 have hRl:=hR.len;simp only[LLz,eD,oq,pJ]at c3 c4 cvis;refine sPx Tryz.func45 rfl rfl ?_;simp -dsimp[Tryz.f45,oE];refine cPx (c1) (by simp) ?_;simp -dsimp[];refine cPx (c2) (by simp) ?_;simp -dsimp[];refine cPx (c3) (by simp) ?_;simp -dsimp[];refine cPx (c4) (by simp) ?_;simp -dsimp[s0,show(n:Int)≤281474976710656 by omega,show(n:Int)≤9223372036854775807 by omega];refine aI (eI 26 1 [9] (by simp) (W_loopM 55 0x7fffffc0002e00 (by simp[mB]<;>rfl) (σ:=Nat×List (List Int)) (fun p=>p.1≤n∧p.2.length≤p.1∧cpF R ((oM n).drop p.1) p.2=C) (fun p=>n-p.1) (fun p=>[(30,.int .i64 p.1),(9,.buf 1 0 p.2.length p.2.length)]) (fun p=>[B.buf 4 1 (snB n p.2.flatten) false,B.buf 26 1 (p.2.map (L1 false)) false]) (0,[]) ⟨by simp,by simp,by rw[pC];exact hCd.symm⟩ (by simp) (by simp) (by simp) ?_));rintro⟨v,o⟩ ⟨hv1,hol,hx⟩ N Q hN hQ;simp only at hv1 hol hx;have wv:=aP v (by omega)
 have hrbo:∀(a:List Int) (b:List (List Int)),∀bl∈[B.buf 4 1 (snB n a) false,B.buf 26 1 (b.map (L1 false)) false],rbB 2 bl:=fun a b bl hbl=>by
  simp only[oR,oO,or_false]at hbl
  rcases hbl with rfl | rfl
  ·exact snB_rb _ _ _ _ _
  ·simp[L1]
 by_cases hb:v<n
 ·have hdr:(oM n).drop v=v::(oM n).drop (v+1):=by
   rw[oK (by simpa using hb)];simp
  rw[hdr,cpF]at hx
  have sg:=fun h=>lY (n:=n) (o:=o.flatten) (v:=v) h
  by_cases hm:(v:Int)∈o.flatten
  ·rw[if_pos hm]at hx;rw[decide_eq_true hm]at sg;refine wx ?_;simp -dsimp[hb,sl,sg,wv];refine hN (v+1,o) _ _ ⟨by simp only;omega,by simp only;omega,hx⟩ (by simp only;omega) (by simp) ⟨[],rfl⟩ (by simp[L1]) (hrbo _ _)
  ·rw[if_neg hm]at hx;rw[decide_eq_false hm]at sg;have cv:=cvis v hb;have hvo:=visV_ok hR hb;obtain⟨l,hl2⟩:∃l,l=visV R v:=⟨_,rfl⟩;rw[←hl2]at cv hvo hx;have hll:=hvo.len;refine wx ?_;simp -dsimp[hb,sl,sg];refine cPx (cv) (by simp) ?_;simp -dsimp[L1];refine aI (W_loopM 50 0x3fc0000002000 (by simp[mB]<;>rfl) (σ:=Nat) (fun j=>j≤l.length) (fun j=>l.length-j) (fun j=>[(42,.int .i64 j)]) (fun j=>[B.buf 4 1 (snB n (o.flatten++l.take j)) false,B.buf 26 1 (o.map (L1 false)) false]) 0 (by omega) (by simp) (by simp) (by simp) ?_);intro j hj N2 Q2 hN2 hQ2;have wj:=aP j (by omega);by_cases hbj:j<l.length
   ·have hlt:=hvo.lt l[j] (oI hbj);obtain⟨w,hw⟩:=pU hlt.1
    have hwn:w<n:=by omega
    have ss:=snB_set n (o.flatten++l.take j) w;rw[oh,←hw,←oN hbj]at ss
    have sgw:=fun h=>lY (n:=n) (o:=o.flatten++l.take j) (v:=w) h
    have hw':l[j]=(w:Int):=hw;refine wx ?_;simp -dsimp[hbj,hw',aQ,sl,sgw,hwn,wj,ss];refine hN2 (j+1) _ _ (by omega) (by omega) (by simp) ⟨[],rfl⟩ (by simp[aQ]) (hrbo _ _)
   ·obtain rfl:j=l.length:=by omega
    rw[oY];have cap:=nu o.length (by omega);refine wx ?_;simp -dsimp[hbj];refine hQ2 _ _ _ ?_;simp -dsimp[wv,cap];refine hN (v+1,o++[l]) _ _ ⟨by simp only;omega,by simp;omega,hx⟩ (by simp only;omega) (by simp) ⟨[],by simp[L1]⟩ (by simp[L1]) (hrbo _ _)
 ·obtain rfl:v=n:=by omega
  rw[oV (by simp),cpF]at hx;subst hx;refine eo 1 [9] rfl (by simp[dM]) ?_;refine wx ?_;simp -dsimp[hb];refine hQ _ _ _ ?_;simp -dsimp[];rfl
def mP(ps:List (Nat×Nat)):List (V×V):=ps.map fun p=>(dp p,V.bool true)
theorem mP_snoc(ps:List (Nat×Nat))(a b:Nat):mP ps++[(.agg [.int .i64 (a:Int),.int .i64 (b:Int)],.bool true)]=mP (ps++[(a,b)]):=by simp[mP,dp]
theorem nN(a b:Nat)(p:Nat×Nat)(ps:List (Nat×Nat))(i:Nat):cK (.agg [.int .i64 (a:Int),.int .i64 (b:Int)]) (mP (p::ps)) i=if(a,b)=p then some (i,.bool true) else cK (.agg [.int .i64 (a:Int),.int .i64 (b:Int)]) (mP ps) (i+1):=by
 obtain⟨c,d⟩:=p;show(if bB _ _=true then _ else _)=_
 have:(bB (.agg [.int .i64 (a:Int),.int .i64 (b:Int)]) (dp (c,d))=true)↔(a,b)=(c,d):=by
  simp[dp,bB,kh];omega
 by_cases h:(a,b)=(c,d)
 ·rw[if_pos (this.2 h),if_pos h]
 ·rw[if_neg (fun e=>h (this.1 e)),if_neg h];rfl
theorem jm(a b:Nat):∀(ps:List (Nat×Nat)) (i:Nat),¬(a,b)∈ps→cK (.agg [.int .i64 (a:Int),.int .i64 (b:Int)]) (mP ps) i=none
 | [],_,_=>rfl
 | p::ps,i,h=>by
  rw[nN,if_neg (fun e=>h (by rw[e];exact ou ..))];exact jm a b ps (i+1) (fun hm=>h (ow _ hm))
theorem kf(a b:Nat):∀(ps:List (Nat×Nat)) (i:Nat),(a,b)∈ps→∃j,cK (.agg [.int .i64 (a:Int),.int .i64 (b:Int)]) (mP ps) i=some (i+j,.bool true)∧ps[j]?=some (a,b)
 | [],_,h=>by simp at h
 | p::ps,i,h=>by
  rw[nN];by_cases e:(a,b)=p
  ·exact⟨0,by rw[if_pos e];rfl,by rw[e];rfl⟩
  ·obtain⟨j,h1,h2⟩:=kf a b ps (i+1) ((List.mem_cons.1 h).resolve_left e);exact⟨j+1,by rw[if_neg e,h1,show i+1+j=i+(j+1) by omega],by simpa using h2⟩
theorem set_mP{ps:List (Nat×Nat)}{a b j:Nat}(h:ps[j]?=some (a,b)):(mP ps).set j (.agg [.int .i64 (a:Int),.int .i64 (b:Int)],.bool true)=mP ps:=by
 unfold mP;apply pT;intro k;by_cases hk:j=k
 ·subst hk;have hl:=aB h;rw[oX (by simpa using hl),oc,h];rfl
 ·rw[oQ hk]
@[simp ↓ high] theorem rbB_mP (n:Nat) (kk:KK) (ps:List (Nat×Nat)):rbB n (.map kk (mP ps))↔True:=by
 refine⟨fun _=>trivial,fun _ p hp=>?_⟩;obtain⟨x,_,rfl⟩:=List.mem_map.1 hp;refine⟨?_,trivial⟩;intro c hc;simp only[oR,oO,or_false]at hc
 rcases hc with rfl | rfl<;>trivial
structure Pw where
 i:Nat
 k:Nat
 w:Int
def Pw.key(p:Pw):Nat×Nat:=(p.i,p.k)
def dI(p:Pw):V:=.agg [.int .i64 (p.i:Int),.int .i64 (p.k:Int),.int .i64 p.w]
def LPw(f:Bool)(l:List Pw):V:=.lst 3 f (l.map dI)
@[simp] theorem encPw_pure (p:Pw):AM.Pure (dI p):=by simp[dI]
@[simp] theorem LPw_pure (f:Bool) (l:List Pw):AM.Pure (LPw f l):=by simp[LPw]
structure PwOk (n:Nat) (l:List Pw):Prop where
 n2:n≤200
 len:l.length≤20000
 lt:∀p∈l,p.i<p.k∧p.k<n∧-1000≤p.w∧p.w≤1000
 nd:(l.map Pw.key).Nodup
theorem cvalid_u(n:Nat)(l:List Pw)(f:Bool)(h:PwOk n l):aJ Tryz.prog 172 [.int .i64 n,LPw f l] fun r=>r = .int .i64 0:=by
 obtain⟨h1,h2,h3,h4⟩:=h;refine sPx Tryz.func172 rfl rfl ?_;simp -dsimp[Tryz.f172,oE,LPw,show ¬(n:Int)<0 by omega,show ¬(200:Int)<(n:Int) by omega,show ¬(20000:Int)<(l.length:Int) by omega];refine aI (W_loopM 66 0x3ffffffffff800190 (by simp[mB]<;>rfl) (σ:=Nat) (fun i=>i≤l.length) (fun i=>l.length-i) (fun i=>[(23,.int .i64 i)]) (fun i=>[B.map (.arr 2) (mP ((l.take i).map Pw.key))]) 0 (by omega) (by simp) (by simp[mP]) (by simp) ?_);intro i hi N Q hN hQ;have wi:=aP i (by omega);by_cases hb:i<l.length
 ·obtain⟨q1,q2,q3,q4⟩:=h3 _ (oI hb)
  have hnm:¬l[i].key∈(l.take i).map Pw.key:=fun hm=>by
   obtain⟨j,hj,e⟩:=List.mem_iff_getElem.1 hm;simp at hj;have:=List.pairwise_iff_getElem.1 h4 j i (by simp;omega) (by simpa using hb) (by omega);simp at e this;exact this e
  have hst:(l.take (i+1)).map Pw.key=(l.take i).map Pw.key++[l[i].key]:=by rw[oN hb,oe];rfl
  obtain⟨p,hp⟩:∃p,p=l[i]:=⟨_,rfl⟩;rw[←hp]at q1 q2 q3 q4 hnm hst;obtain⟨U,hU⟩:∃U,U=(l.take i).map Pw.key:=⟨_,rfl⟩;rw[←hU]at hnm hst ⊢;have hpk:p.key=(p.i,p.k):=rfl;rw[hpk]at hnm hst;have hf:=jm p.i p.k U 0 hnm;have hs:=mP_snoc U p.i p.k;obtain⟨a,ha⟩:∃a,a=p.i:=⟨_,rfl⟩;obtain⟨b,hbb⟩:∃b,b=p.k:=⟨_,rfl⟩;rw[←ha,←hbb]at hf hs hst q1;rw[←hbb]at q2
  have he:dI p = .agg [.int .i64 (a:Int),.int .i64 (b:Int),.int .i64 p.w]:=by rw[ha,hbb];rfl
  refine wx ?_;simp -dsimp[hb,hp.symm,he,show ¬(a:Int)<0 by omega,show ¬(b:Int)≤(a:Int) by omega,show ¬(n:Int)≤(b:Int) by omega,show ¬p.w < -1000 by omega,show ¬1000<p.w by omega,hf,hs,wi];refine hN (i+1) _ _ (by omega) (by omega) (by simp) ⟨[B.cells [.int .i64 (a:Int),.int .i64 (b:Int),.int .i64 p.w],B.cells [.int .i64 (a:Int),.int .i64 (b:Int)]],?_⟩ (by simp) (by simp);rw[hst];rfl
 ·refine wx ?_;simp -dsimp[hb];refine hQ _ _ _ ?_;simp -dsimp[]
def stW(g:Nat→Nat→Int)(p:Pw):Nat→Nat→Int:=fun a b=>if(a=p.i∧b=p.k)∨(a=p.k∧b=p.i) then p.w else g a b
def wtF(l:List Pw):Nat→Nat→Int:=l.foldl stW fun _ _=>0
theorem wtF_succ{l:List Pw}{i:Nat}(h:i<l.length):wtF (l.take (i+1))=stW (wtF (l.take i)) l[i]:=by
 unfold wtF;rw[oN h,rW];rfl
theorem foldl_stW:∀(l:List Pw) (g:Nat→Nat→Int),(∀p∈l,-1000≤p.w∧p.w≤1000)→(∀a b,-1000≤g a b∧g a b≤1000)→∀a b,-1000≤l.foldl stW g a b∧l.foldl stW g a b≤1000
 | [],g,_,hg=>hg
 | p::l,g,h,hg=>by
  refine foldl_stW l (stW g p) (fun q hq=>h q (ow _ hq)) (fun a b=>?_);unfold stW;split
  ·exact h p (ou ..)
  ·exact hg a b
theorem wtF_in{l:List Pw}(h:∀p∈l,-1000≤p.w∧p.w≤1000)(a b:Nat): -1000≤wtF l a b∧wtF l a b≤1000:=foldl_stW l _ h (fun _ _=>by omega) a b
def roI(n:Nat)(g:Nat→Int):List Int:=(oM n).map g
def roL(n:Nat)(g:Nat→Int):List V:=(roI n g).map aQ
theorem roL_len(n:Nat)(g:Nat→Int):(roL n g).length=n:=by simp[roL,roI]
theorem roL_get{n:Nat}{g:Nat→Int}{k:Nat}(h:k<(roL n g).length):(roL n g)[k] = .int .i64 (g k):=by simp[roL,roI,aQ]
theorem roL_set(n:Nat)(g:Nat→Int)(k:Nat)(x:Int):(roL n g).set k (.int .i64 x)=roL n (bG g k x):=by
 unfold roL roI;rw[show V.int .i64 x=aQ x from rfl,←qw,jX]
theorem roL_rb(m n:Nat)(g:Nat→Int)(fz:Bool):rbB m (.buf 2 1 (roL n g) fz):=(rbB_buf1 (by intro x hx;obtain⟨y,_,rfl⟩:=List.mem_map.1 hx;simp[aQ])).2 trivial
theorem roL_zero(n:Nat):oE n (V.int .i64 0)=roL n fun _=>0:=by
 refine pw (by simp[roL,roI]) (fun i h1 h2=>by simp[roL,roI,aQ])
def mtW(n:Nat)(l:List Pw):List (List Int):=(oM n).map fun a=>roI n (wtF l a)
def zrB(n:Nat):B:=.buf 2 1 (roL n fun _=>0) false
theorem zrB_mem{n i:Nat}{bl:B}(h:bl∈oE i (zrB n)):bl=zrB n:=pi h
theorem matrix_u(n:Nat)(l:List Pw)(f:Bool)(h:PwOk n l):aJ Tryz.prog 173 [.int .i64 n,LPw f l] fun r=>r=LLz false (mtW n l):=by
 obtain⟨h1,h2,h3,h4⟩:=h;have hz:=roL_zero n
 have mxl:=fun i=>ll n n i
 refine sPx Tryz.func173 rfl rfl ?_;simp -dsimp[Tryz.f173,oE,LPw,show 24*(n:Int)≤281474976710656 by omega,show(n:Int)≤9223372036854775807 by omega];refine aI (W_loopM 22 0x3fe040 (by simp[mB]<;>rfl) (σ:=Nat) (fun i=>i≤n) (fun i=>n-i) (fun i=>[(13,.int .i64 i)]) (fun i=>B.buf 106 1 (mxA n n i) false::oE i (zrB n)) 0 (by omega) (by simp) (by simp[mxA_zero]) (by simp) ?_);intro i hi N Q hN hQ;have wi:=aP i (by omega);by_cases hb:i<n
 ·have ms:=mxA_set (m:=n) hb
  have mg:∀h,(mxA n n i)[i]'h = .nilS:=fun h=>by simp[mxA]
  have hre:oE i (zrB n)++[zrB n]=oE (i+1) (zrB n):=by rw[List.replicate_succ']
  have hze:B.buf 2 1 (roL n fun _=>0) false=zrB n:=rfl;refine wx ?_;simp -dsimp[hb,mxl,hz,hze,hre,mg,ms,wi,show 8*(n:Int)≤281474976710656 by omega,show(n:Int)≤9223372036854775807 by omega];refine hN (i+1) _ _ (by omega) (by omega) (by simp) ⟨[],by simp⟩ (by simp) ?_;intro bl hbl
  rcases List.mem_cons.1 hbl with rfl | hbl
  ·intro x hx c hc;obtain⟨t,ht,rfl⟩:=List.mem_map.1 hx;rw[qK]at ht;by_cases h9:t<i+1
   ·rw[if_pos h9]at hc;simp[V.cells]at hc;subst hc;show t+1<_;simp;omega
   ·rw[if_neg h9]at hc;simp[V.cells]at hc;subst hc;trivial
  ·rw[zrB_mem hbl];exact roL_rb _ _ _ _
 ·obtain rfl:i=n:=by omega
  have hH:(B.buf 106 1 (mxA i i i) false::oE i (zrB i))=NH 106 i (ow1 fun _=>i) (fun a=>B.buf 2 1 (roL i (wtF [] a)) false) []:=by
   unfold NH NR mxA;congr 1
   ·congr 1;refine oo (fun v hv=>?_);rw[qK]at hv;rw[if_pos hv];rfl
   ·refine pw (by simp) (fun k h1 h2=>by simp[zrB];rfl)
  rw[hH];refine wx ?_;simp -dsimp[hb,mxl];refine hQ _ _ _ ?_;simp -dsimp[]
  have rl:=fun(F:Nat→V)=>dV (n:=i) (F:=F)
  refine aI (W_loopM 49 0x1ffffff000100 (by simp[mB]<;>rfl) (σ:=Nat) (fun j=>j≤l.length) (fun j=>l.length-j) (fun j=>[(24,.int .i64 j)]) (fun j=>NH 106 i (ow1 fun _=>i) (fun a=>B.buf 2 1 (roL i (wtF (l.take j) a)) false) []) 0 (by omega) (by simp) rfl (by intro j _;simp[ep]) ?_);intro j hj N2 Q2 hN2 hQ2;have wj:=aP j (by omega);by_cases hbj:j<l.length
  ·obtain⟨q1,q2,q3,q4⟩:=h3 _ (oI hbj);have hsu:=wtF_succ hbj;obtain⟨p,hp⟩:∃p,p=l[j]:=⟨_,rfl⟩;rw[←hp]at q1 q2 q3 q4 hsu;obtain⟨g,hg⟩:∃g,g=wtF (l.take j):=⟨_,rfl⟩;obtain⟨g',hg'⟩:∃g',g'=wtF (l.take (j+1)):=⟨_,rfl⟩;rw[←hg,←hg']at hsu;rw[←hg];obtain⟨a,ha⟩:∃a,a=p.i:=⟨_,rfl⟩;obtain⟨b,hbb⟩:∃b,b=p.k:=⟨_,rfl⟩;obtain⟨w,hw⟩:∃w,w=p.w:=⟨_,rfl⟩
   have hpe:dI p = .agg [.int .i64 (a:Int),.int .i64 (b:Int),.int .i64 w]:=by rw[ha,hbb,hw];rfl
   rw[←ha,←hbb]at q1;rw[←hbb]at q2
   have han:a<i:=by omega
   have q0:=fun(F:Nat→V) (G:Nat→B) (tl:List B)=>NH_0 (e0:=106) (n:=i) (F:=F) (G:=G) (tl:=tl)
   have qa:=fun(F:Nat→V) (G:Nat→B) (tl:List B) (b:B)=>NH_app (e0:=106) (n:=i) (F:=F) (G:=G) (tl:=tl) b
   have ql:=fun(F:Nat→V) (G:Nat→B)=>ep (e0:=106) (n:=i) (F:=F) (G:=G) (tl:=[])
   have qt:=fun(F:Nat→V) (G:Nat→B) (b:B)=>NH_t0 (e0:=106) (n:=i) (F:=F) (G:=G) (tl:=[]) b
   have qst:=fun(F:Nat→V) (G:Nat→B) (b c:B)=>NH_sett (e0:=106) (n:=i) (F:=F) (G:=G) (tl:=[]) b c
   have qva:=fun(F:Nat→V) (G:Nat→B) (tl:List B)=>NH_v (e0:=106) (n:=i) (F:=F) (G:=G) (tl:=tl) han
   have qvb:=fun(F:Nat→V) (G:Nat→B) (tl:List B)=>NH_v (e0:=106) (n:=i) (F:=F) (G:=G) (tl:=tl) q2
   have qsa:=fun(F:Nat→V) (G:Nat→B) (tl:List B) (c:B)=>dZ (e0:=106) (n:=i) (F:=F) (G:=G) (tl:=tl) han c
   have qsb:=fun(F:Nat→V) (G:Nat→B) (tl:List B) (c:B)=>dZ (e0:=106) (n:=i) (F:=F) (G:=G) (tl:=tl) q2 c
   have rga:=fun(F:Nat→V) h=>kw (n:=i) (F:=F) (v:=a) h
   have rgb:=fun(F:Nat→V) h=>kw (n:=i) (F:=F) (v:=b) h
   have oa:∀v,ow1 (fun _=>i) v = .buf (v+1) 0 i i:=fun v=>rfl
   have rol:=fun g=>roL_len i g
   have rsa:=fun g x=>roL_set i g a x
   have rsb:=fun g x=>roL_set i g b x
   have rog:=fun g k h=>roL_get (n:=i) (g:=g) (k:=k) h
   have uab:=fun(G:Nat→B) (c:B)=>lX G (v:=a) (u:=b) c (by omega)
   have hG:bG (bG (fun a=>B.buf 2 1 (roL i (g a)) false) a (B.buf 2 1 (roL i (bG (g a) b w)) false)) b (B.buf 2 1 (roL i (bG (g b) a w)) false)=fun a=>B.buf 2 1 (roL i (g' a)) false:=by
    funext v;rw[hsu];unfold bG;by_cases e1:v=b
    ·rw[if_pos e1];congr 2;funext u;unfold stW;subst e1;rw[←ha,←hbb,←hw];by_cases e2:u=a
     ·rw[if_pos e2,if_pos (by omega)]
     ·rw[if_neg e2,if_neg (by omega)]
    ·rw[if_neg e1];by_cases e3:v=a
     ·rw[if_pos e3];congr 2;funext u;unfold stW;subst e3;rw[←ha,←hbb,←hw];by_cases e2:u=b
      ·rw[if_pos e2,if_pos (by omega)]
      ·rw[if_neg e2,if_neg (by omega)]
     ·rw[if_neg e3]
      have:stW g p v=g v:=by
       funext u;unfold stW;rw[←ha,←hbb,if_neg (by omega)]
      rw[this]
   refine wx ?_;simp -dsimp[hbj,hp.symm,hpe,q0,qa,ql,qt,qst];refine aI (aX tok mixed [19,21] [(12,[1]),(13,[1]),(16,[1]),(17,[1])] [] (by kernel_rfl) fun C K hC hK=>?_);simp -implicitDefEqProofs [hbj,hp.symm,hpe,q0,qa,ql,qt,qst,qva,qvb,qsa,qsb,rga,rgb,rl,oa,rol,rsa,rsb,rog,uab,hG,han,q2];refine hK _ _ ?_;simp -dsimp[wj];refine hN2 (j+1) _ _ (by omega) (by omega) (by simp) ⟨[B.cells [.int .i64 (a:Int),.int .i64 (b:Int),.int .i64 w]],?_⟩ ?_ ?_
   ·rw[←hg'];simp[NH]
   ·simp[ep]
   ·refine NH_rb (fun v hv c hc=>?_) (fun v hv=>roL_rb _ _ _ _) (by simp);simp[ow1,V.cells]at hc;subst hc;show v+1<_;omega
  ·obtain rfl:j=l.length:=by omega
   rw[oY]
   have hfr:(ow1 fun _=>i)=fun v=>V.buf (v+1) 0 (roL i (wtF l v)).length (roL i (wtF l v)).length:=by funext v;simp[ow1,roL_len]
   rw[hfr];refine W_frzNH (fun v=>roL i (wtF l v)) [] ?_;refine eo 0 [5] (e:=106) (z:=1) (xs:=NR i fun v=>.lst 1 false (roL i (wtF l v))) (fz:=false) rfl (by simp[dM,dV]) ?_
   have hNR:(NR i fun v=>V.lst 1 false (roL i (wtF l v)))=(mtW i l).map (L1 false):=by simp[NR,mtW,L1,roL,qu,Function.comp_def]
   rw[hNR];refine wx ?_;simp -dsimp[hbj];refine hQ2 _ _ _ ?_;simp -dsimp[];rfl
def dkF(l:List Int):List Int:=l.foldl kG []
theorem dkF_succ{l:List Int}{i:Nat}(h:i<l.length):dkF (l.take (i+1))=kG (dkF (l.take i)) l[i]:=by
 unfold dkF;rw[oN h,rW];rfl
theorem addK_pre(us:List Int)(k:Int):∃r,kG us k=us++r:=by
 unfold kG;split
 ·exact⟨[],by simp⟩
 ·exact⟨[k],rfl⟩
theorem foldl_pre:∀(l us:List Int),∃r,l.foldl kG us=us++r
 | [],us=>⟨[],by simp⟩
 | x::l,us=>by
  obtain⟨r,h⟩:=addK_pre us x;obtain⟨q,h2⟩:=foldl_pre l (kG us x);exact⟨r++q,by rw[ri,h2,h,oh]⟩
theorem dkF_pre(l:List Int)(i:Nat):∃r,dkF l=dkF (l.take i)++r:=by
 obtain⟨r,h⟩:=foldl_pre (l.drop i) (dkF (l.take i));refine⟨r,?_⟩;rw[←h];unfold dkF;rw[←rW,pc]
def nmI(U:List Int)(x:Int):Nat:=U.idxOf x
theorem nm_old{us r:List Int}{x:Int}(h:x∈us):nmI (us++r) x=nmI us x:=by
 unfold nmI;rw[List.idxOf_append,if_pos h]
theorem nm_new{us r:List Int}{x:Int}(h:¬x∈us):nmI (us++x::r) x=us.length:=by
 unfold nmI;rw[List.idxOf_append,if_neg h,List.idxOf_cons_self];omega
theorem dkF_len(l:List Int):(dkF l).length≤l.length:=by
 have key:∀(l us:List Int),(l.foldl kG us).length≤us.length+l.length:=by
  intro l
  induction l with
  | nil=>simp
  | cons x l ih =>
   intro us;have h1:=ih (kG us x)
   have h2:(kG us x).length≤us.length+1:=by unfold kG;split<;>simp
   simp;omega
 have:=key l [];rw[qD,pI]at this;exact this
def iq(l:List Int):List Int:=l.map fun x=>(nmI (dkF l) x:Int)
theorem nm_at{l:List Int}{i:Nat}(h:i<l.length):(cP (dkF (l.take i)) l[i]=true∧nmI (dkF l) l[i]<(dkF (l.take i)).length∧dkF (l.take (i+1))=dkF (l.take i))∨(cP (dkF (l.take i)) l[i]=false∧nmI (dkF l) l[i]=(dkF (l.take i)).length∧dkF (l.take (i+1))=dkF (l.take i)++[l[i]]):=by
 have hs:=dkF_succ h;obtain⟨r,hr⟩:=dkF_pre l (i+1)
 cases hm:cP (dkF (l.take i)) l[i] with
 | true =>
  rw[addK_yes hm]at hs;refine .inl ⟨rfl,?_,hs⟩;rw[hr,hs,nm_old (di.1 hm)];exact List.idxOf_lt_length_of_mem (di.1 hm)
 | false =>
  rw[addK_no hm]at hs;refine .inr ⟨rfl,?_,hs⟩;rw[hr,hs,oh];exact nm_new (fun h=>by rw[di.2 h]at hm;cases hm)
def nmE(U:List Int)(x:Int):V:=.int .i64 (nmI U x:Nat)
def nmO(l:List Int)(i:Nat):List Int:=(iq l).take i++oE (l.length-i) 0
theorem nmO_len{l:List Int}{i:Nat}(h:i≤l.length):(nmO l i).length=l.length:=by simp[nmO,iq];omega
theorem nmO_set{l:List Int}{i:Nat}(h:i<l.length):(nmO l i).set i (nmI (dkF l) l[i]:Nat)=nmO l (i+1):=by
 have hn:i<(iq l).length:=by simpa[iq] using h
 unfold nmO;rw[pt _ _ (by simp[iq];omega),show l.length-i=(l.length-(i+1))+1 by omega,List.replicate_succ,oN hn,oh];simp[iq,show min i l.length=i by omega]
theorem normal_u(l:List Int)(f:Bool)(hl:l.length≤1000000):aJ Tryz.prog 176 [L1 f l] fun r=>r=L1 false (iq l):=by
 obtain⟨U,hU⟩:∃U,U=dkF l:=⟨_,rfl⟩
 have hz:oE l.length (V.int .i64 0)=czL (nmO l 0):=by simp[nmO,czL,aQ]
 have hne:∀n x,rb n (nmE U x):=fun n x=>trivial
 have hrb:=fun n kk us=>rbB_mF (enc:=nmE U) hne n kk us
 refine au (aE tok Tryz.func176 rfl rfl ?_);refine wx ?_;simp -dsimp[Tryz.f176,oE,L1,hz,show 8*(l.length:Int)≤281474976710656 by omega,show(l.length:Int)≤9223372036854775807 by omega];refine aI (W_loopM 38 0x3fffff81e0 (by simp[mB]<;>rfl) (σ:=Nat) (fun i=>i≤l.length) (fun i=>l.length-i) (fun i=>[(15,.int .i64 i)]) (fun i=>[B.map (.int .i64) (mF (nmE U) (dkF (l.take i))),B.buf 3 1 (czL (nmO l i)) false]) 0 (by omega) (by simp) (by simp[mF,dkF]) (by simp) ?_);intro i hi N Q hN hQ;have wi:=aP i (by omega);have hol:=nmO_len hi;have hcl:=bo (nmO l i);rw[hol]at hcl
 have hrbo:∀(us o:List Int),∀bl∈[B.map (.int .i64) (mF (nmE U) us),B.buf 3 1 (czL o) false],rbB 2 bl:=fun us o bl hbl=>by
  simp only[oR,oO,or_false]at hbl
  rcases hbl with rfl | rfl
  ·exact(hrb _ _ _).2 trivial
  ·exact jA _ _ _ _
 by_cases hb:i<l.length
 ·have hat:=nm_at hb;have hset:=nmO_set hb;rw[←hU]at hat hset;obtain⟨x,hx⟩:∃x,x=l[i]:=⟨_,rfl⟩;rw[←hx]at hat hset;obtain⟨us,hus⟩:∃us,us=dkF (l.take i):=⟨_,rfl⟩;obtain⟨o,ho⟩:∃o,o=nmO l i:=⟨_,rfl⟩;rw[←hus]at hat ⊢;rw[←ho]at hset hcl ⊢;have czs:=mD o i (nmI U x:Nat);rw[hset]at czs
  have czg:=fun h=>eL (m:=o) (x:=i) h
  have hml:(mF (nmE U) us).length=us.length:=by simp[mF]
  rcases hat with⟨h1,h2,h3⟩ | ⟨h1,h2,h3⟩
  ·obtain⟨j,hf,hj⟩:=findF_yes (enc:=nmE U) (us:=us) (i:=0) h1;have hv:nmE U x = .int .i64 (nmI U x:Nat):=rfl;rw[hv]at hf;refine wx ?_;simp -dsimp[hb,hx.symm,aQ,hf,czs,czg,hcl,wi];refine hN (i+1) _ _ (by omega) (by omega) (by simp) ⟨[],by rw[h3];rfl⟩ (by simp[aQ]) (hrbo _ _)
  ·have hf:=findF_no (enc:=nmE U) (us:=us) (i:=0) h1;rw[h2]at czs
   have hmf:mF (nmE U) us++[(V.int .i64 x,V.int .i64 (us.length:Nat))]=mF (nmE U) (us++[x]):=by rw[mF_snoc,show nmE U x = .int .i64 (nmI U x:Nat) from rfl,h2]
   refine wx ?_;simp -dsimp[hb,hx.symm,aQ,hf,czs,czg,hcl,hml,hmf,wi];refine hN (i+1) _ _ (by omega) (by omega) (by simp) ⟨[],by rw[h3];rfl⟩ (by simp[aQ]) (hrbo _ _)
 ·obtain rfl:i=l.length:=by omega
  have he:nmO l l.length=iq l:=by
   unfold nmO;rw[px,pA (by simp[iq])];simp
  rw[he];refine wx ?_;simp -dsimp[hb];refine hQ _ _ _ ?_;simp -dsimp[]
  have hp:∀x∈czL (iq l),AM.Pure x:=fun x hx=>(czL_pure _ x hx).1
  exact kg (by simp[iq]) rfl hp
section
def adG(gs:List (List Int))(k:Nat)(i:Nat):List (List Int):=if k=gs.length then gs++[[(i:Int)]] else gs.set k (gs.getD k []++[(i:Int)])
def grF(l:List Int):Nat→List (List Int)
 | 0=>[]
 | i+1=>adG (grF l i) (nmI (dkF l) (l.getD i 0)) i
theorem grF_len(l:List Int):∀i,i≤l.length→(grF l i).length=(dkF (l.take i)).length
 | 0,_=>by simp[grF,dkF]
 | i+1,h=>by
  have ih:=grF_len l i (by omega)
  have hb:i<l.length:=by omega
  have hg:l.getD i 0=l[i]:=by simp[hb]
  rw[grF,hg];unfold adG
  rcases nm_at hb with⟨_,h2,h3⟩ | ⟨_,h2,h3⟩
  ·rw[if_neg (by omega),h3,pN];exact ih
  ·rw[if_pos (by omega),h3,oT,oT,ih];rfl
theorem grF_in{l:List Int}{i:Nat}(h:i<l.length):nmI (dkF l) l[i]≤(grF l i).length:=by
 rw[grF_len l i (by omega)]
 rcases nm_at h with⟨_,h2,_⟩ | ⟨_,h2,_⟩<;>omega
theorem lx(l:List Int):∀i,i≤l.length→∀g∈grF l i,g.length≤i∧∀x∈g,0≤x∧x<(i:Int)
 | 0,_=>by simp[grF]
 | i+1,h=>fun g hg=>by
  have ih:=lx l i (by omega);rw[grF]at hg;unfold adG at hg;split at hg
  ·rcases List.mem_append.1 hg with hg | hg
   ·obtain⟨h1,h2⟩:=ih g hg;exact⟨by omega,fun x hx=>by have:=h2 x hx;omega⟩
   ·rw[pM]at hg;subst hg;exact⟨by simp,fun x hx=>by rw[pM]at hx;subst hx;omega⟩
  ·rcases pu hg with hg | hg
   ·obtain⟨h1,h2⟩:=ih g hg;exact⟨by omega,fun x hx=>by have:=h2 x hx;omega⟩
   ·subst hg;obtain⟨k,hk⟩:∃k,k=nmI (dkF l) (l.getD i 0):=⟨_,rfl⟩;rw[←hk]
    have h3:((grF l i).getD k []).length≤i∧∀x∈(grF l i).getD k [],0≤x∧x<(i:Int):=by
     by_cases hkl:k<(grF l i).length
     ·rw[show(grF l i).getD k []=(grF l i)[k] by simp[hkl]];exact ih _ (oI hkl)
     ·rw[show(grF l i).getD k []=[] by simp[hkl]];simp
    refine⟨by rw[oT,qp];omega,fun x hx=>?_⟩
    rcases List.mem_append.1 hx with hx | hx
    ·have:=h3.2 x hx;omega
    ·rw[pM]at hx;subst hx;omega
theorem grF_le(l:List Int)(i:Nat)(h:i≤l.length):(grF l i).length≤i:=by
 rw[grF_len l i h];exact pY (dkF_len _) (by simp;omega)
def ggt(gs:List (List Int))(v:Nat):List Int:=gs.getD v []
def ow3(m:Nat→Nat)(v:Nat):V:=.buf (v+3) 0 (m v) (m v)
def GL(A B0:B)(gs:List (List Int)):List B:=A::B0::NH 26 gs.length (ow3 fun v=>(ggt gs v).length) (fun v=>bfZ (ggt gs v) false) []
section
variable {A B0:B}
theorem fH(gs:List (List Int)):(GL A B0 gs).length=gs.length+3:=by
 have:=ep (e0:=26) (n:=gs.length) (F:=ow3 fun v=>(ggt gs v).length) (G:=fun v=>bfZ (ggt gs v) false) (tl:=[]);simp[GL,this]
theorem GL_rb(hA:∀n,0<n→rbB n A)(hB:∀n,0<n→rbB n B0)(gs:List (List Int)):∀bl∈GL A B0 gs,rbB (GL A B0 gs).length bl:=by
 rw[fH];intro bl hb;unfold GL NH at hb
 rcases List.mem_cons.1 hb with rfl | hb
 ·exact hA _ (by omega)
 rcases List.mem_cons.1 hb with rfl | hb
 ·exact hB _ (by omega)
 rcases List.mem_cons.1 hb with rfl | hb
 ·intro x hx c hc;obtain⟨v,hv,rfl⟩:=List.mem_map.1 hx;rw[qK]at hv;simp[ow3,V.cells]at hc;subst hc;show v+3<_;omega
 ·rw[oU]at hb;obtain⟨v,hv,rfl⟩:=List.mem_map.1 hb;exact bfZ_rb _ _ _
theorem ow3_snoc(gs:List (List Int))(x:List Int):bG (ow3 fun v=>(ggt gs v).length) gs.length (.buf (gs.length+3) 0 x.length x.length)=ow3 fun v=>(ggt (gs++[x]) v).length:=by
 funext v;unfold bG ow3;by_cases h:v=gs.length
 ·rw[if_pos h,h];simp[ggt]
 ·rw[if_neg h]
  rcases pS v gs.length with h2 | h2
  ·have:ggt (gs++[x]) v=ggt gs v:=by simp[ggt,oL h2]
   simp only[this]
  ·simp[ggt,oS h2,show v-gs.length≠0 by omega,h2]
theorem bf_snoc(gs:List (List Int))(x:List Int):bG (fun v=>bfZ (ggt gs v) false) gs.length (bfZ x false)=fun v=>bfZ (ggt (gs++[x]) v) false:=by
 funext v;unfold bG;by_cases h:v=gs.length
 ·rw[if_pos h,h];simp[ggt]
 ·rw[if_neg h]
  rcases pS v gs.length with h2 | h2
  ·rw[show ggt (gs++[x]) v=ggt gs v by simp[ggt,oL h2]]
  ·congr 1;simp[ggt,oS h2,h2];rw[pK (by simp;omega)];simp
theorem ow3_set(gs:List (List Int))(k:Nat)(x:List Int)(h:k<gs.length):bG (ow3 fun v=>(ggt gs v).length) k (.buf (k+3) 0 x.length x.length)=ow3 fun v=>(ggt (gs.set k x) v).length:=by
 funext v;unfold bG ow3;by_cases h2:v=k
 ·rw[if_pos h2,h2];simp[ggt,h]
 ·rw[if_neg h2];simp[ggt,oQ (Ne.symm h2)]
theorem bf_set(gs:List (List Int))(k:Nat)(x:List Int)(h:k<gs.length):bG (fun v=>bfZ (ggt gs v) false) k (bfZ x false)=fun v=>bfZ (ggt (gs.set k x) v) false:=by
 funext v;unfold bG;by_cases h2:v=k
 ·rw[if_pos h2,h2];simp[ggt,h]
 ·rw[if_neg h2];simp[ggt,oQ (Ne.symm h2)]
theorem NR_snoc(m:Nat)(F:Nat→V)(y:V):NR (m+1) (bG F m y)=NR m F++[y]:=by
 unfold NR;rw[pv,oe,oq,pJ,iB];congr 1;refine oo (fun v hv=>lX _ _ ?_);rw[qK]at hv;omega
theorem GL_grow(gs:List (List Int)){L:Nat}(hL:L=gs.length+3):A::B0::.buf 26 1 ((NR gs.length (ow3 fun v=>(ggt gs v).length)++[V.nilS]).set gs.length (.buf L 0 0 0)) false::((oM gs.length).map (fun v=>bfZ (ggt gs v) false)++[]++[B.buf 3 1 [] false])=GL A B0 (gs++[[]]):=by
 subst hL
 have e1:(NR gs.length (ow3 fun v=>(ggt gs v).length)++[V.nilS]).set gs.length (.buf (gs.length+3) 0 0 0)=NR gs.length (ow3 fun v=>(ggt gs v).length)++[.buf (gs.length+3) 0 0 0]:=by
  rw[pt _ _ (by rw[dV];omega),dV,px];rfl
 rw[e1];unfold GL NH;have e3:=ow3_snoc gs [];have e4:=bf_snoc gs [];rw[qD]at e3;rw[←e3,←e4,oT,qp,NR_snoc,pv,oe,oq,pJ,iB]
 have e2:(oM gs.length).map (bG (fun v=>bfZ (ggt gs v) false) gs.length (bfZ [] false))=(oM gs.length).map fun v=>bfZ (ggt gs v) false:=by
  refine oo (fun v hv=>lX _ _ ?_);rw[qK]at hv;omega
 rw[e2];simp[bfZ,czL]
end
theorem capI8z(n:Nat)(h:n≤1000000000):n≤9223372036854775806∧(n+1)*8≤140737488355328:=by omega
def gsX(gs:List (List Int))(k:Nat):List (List Int):=if k=gs.length then gs++[[]] else gs
theorem adG_X(gs:List (List Int))(k i:Nat):adG gs k i=(gsX gs k).set k (ggt (gsX gs k) k++[(i:Int)]):=by
 unfold adG gsX;split
 ·rename_i h;subst h;simp[ggt]
 ·rfl
theorem ggt_le{gs:List (List Int)}{i:Nat}(h:∀g∈gs,g.length≤i)(v:Nat):(ggt gs v).length≤i:=by
 unfold ggt;by_cases hv:v<gs.length
 ·rw[show gs.getD v []=gs[v] by simp[hv]];exact h _ (oI hv)
 ·rw[show gs.getD v []=[] by simp[hv]];simp
theorem gsX_le{l:List Int}{i k:Nat}(v:Nat)(h:i≤l.length):(ggt (gsX (grF l i) k) v).length≤i:=by
 refine ggt_le (fun g hg=>?_) v;unfold gsX at hg;split at hg
 ·rcases List.mem_append.1 hg with hg | hg
  ·exact(lx l i h g hg).1
  ·rw[pM]at hg;rw[hg];simp
 ·exact(lx l i h g hg).1
theorem groups_u(A B0:B)(hA:∀n,0<n→rbB n A)(hB:∀n,0<n→rbB n B0)(l:List Int)(f:Bool)(hl:l.length≤1000):aU Tryz.prog 104 [L1 f l] [A,B0] fun r H'=>r = .buf 2 0 (grF l l.length).length (grF l l.length).length∧H'=GL A B0 (grF l l.length):=by
 have c1:=normal_u l f (by omega)
 have hnl:(iq l).length=l.length:=by simp[iq]
 obtain⟨X,hX⟩:∃X,X=iq l:=⟨_,rfl⟩
 have hXg:∀i (h:i<l.length),X[i]'(by rw[hX,hnl];exact h)=(nmI (dkF l) l[i]:Nat):=fun i h=>by simp only[hX];simp[iq]
 rw[←hX]at c1 hnl;simp only[L1]at c1;refine aE tok Tryz.func104 rfl rfl ?_;refine wx ?_;simp -dsimp[Tryz.f104,oE,L1];refine cPx (c1) (by simp) ?_;simp -dsimp[hnl];refine aI (eI 26 1 [3] (by simp) (W_loopM 32 0xfffffe38 (by simp[mB]<;>rfl) (σ:=Nat) (fun i=>i≤l.length) (fun i=>l.length-i) (fun i=>[(9,.int .i64 i),(3,.buf 2 0 (grF l i).length (grF l i).length)]) (fun i=>GL A B0 (grF l i)) 0 (by omega) (by simp[grF]) (by simp[grF,GL,NH,NR]) (by intro i _;simp[fH]) ?_));intro i hi N Q hN hQ;have wi:=aP i (by omega);by_cases hb:i<l.length
 ·have hgl:=grF_le l i (by omega);have hin:=grF_in hb;have hxi:=hXg i hb
  have hgs:grF l (i+1)=adG (grF l i) (nmI (dkF l) l[i]) i:=by rw[grF,show l.getD i 0=l[i] by simp[hb]]
  rw[adG_X]at hgs
  have hbX:i<X.length:=by omega
  obtain⟨k,hk⟩:∃k,k=nmI (dkF l) l[i]:=⟨_,rfl⟩;rw[←hk]at hin hxi hgs;obtain⟨gs,hgse⟩:∃gs,gs=grF l i:=⟨_,rfl⟩;rw[←hgse]at hin hgs hgl ⊢
  have q0:=fun(m:Nat) (F:Nat→V) (G:Nat→B) (tl:List B)=>NH_0 (e0:=26) (n:=m) (F:=F) (G:=G) (tl:=tl)
  have rl:=fun(m:Nat) (F:Nat→V)=>dV (n:=m) (F:=F)
  have gl0:(GL A B0 gs)[2]?=some (.buf 26 1 (NR gs.length (ow3 fun v=>(ggt gs v).length)) false):=rfl;refine fh ?_;refine wx ?_;simp -dsimp[hb,hnl];refine fh ?_;refine wx ?_;simp -dsimp[];refine fh ?_;refine mK ?_;refine fh ?_;refine wx ?_;simp -dsimp[hb,hnl,hbX,hxi,aQ];refine fh ?_;by_cases hkn:k=gs.length
  case' pos =>
   have hkn':(k:Int)=(gs.length:Int):=by omega
   have cap:=nu gs.length (by omega);refine wx ?_;simp -dsimp[gl0,rl,hkn,hkn',cap];refine W_ownB 3 1 gs.length (k0:=2) (e0:=26) (xs:=NR gs.length (ow3 fun v=>(ggt gs v).length)++[.nilS]) rfl (by rw[oS (by rw[dV];omega),dV,px];rfl) ?_;have hgr:=GL_grow (A:=A) (B0:=B0) gs (L:=((GL A B0 gs).set 2 (.buf 26 1 (NR gs.length (ow3 fun v=>(ggt gs v).length)++[.nilS]) false)).length) (by rw[pN,fH]);refine cast (congrArg (fun H=>W Tryz.prog _ _ _ H) hgr.symm) ?_;obtain⟨g2,hg2⟩:∃g2,g2=gs++[[]]:=⟨_,rfl⟩
   have hX2:gsX gs k=g2:=by unfold gsX;rw[if_pos hkn,hg2]
   have hl2:k<g2.length:=by rw[hg2,hkn];simp
   have hl3:g2.length≤1001:=by rw[hg2];simp;omega
   have hln:k+1=g2.length:=by rw[hg2,hkn];simp
   rw[←hg2,←hkn,hln]
  case' neg =>
   have hkn':¬(k:Int)=(gs.length:Int):=by omega
   refine wx ?_;simp -dsimp[gl0,rl,hkn'];obtain⟨g2,hg2⟩:∃g2,g2=gs:=⟨_,rfl⟩
   have hX2:gsX gs k=g2:=by unfold gsX;rw[if_neg hkn,hg2]
   have hl2:k<g2.length:=by rw[hg2];omega
   have hl3:g2.length≤1001:=by rw[hg2];omega
   rw[←hg2]
  all_goals
   rw[hX2]at hgs;have hml:=gsX_le (l:=l) (i:=i) (k:=k) k (by omega);rw[←hgse,hX2]at hml;obtain⟨x,hxe⟩:∃x,x=ggt g2 k:=⟨_,rfl⟩;rw[←hxe]at hml hgs
   have q0:∀(F:Nat→V) (G:Nat→B) (tl:List B),(NH 26 g2.length F G tl)[0]?=some (.buf 26 1 (NR g2.length F) false):=fun F G tl=>rfl
   have rg:=fun(F:Nat→V) h=>kw (n:=g2.length) (F:=F) (v:=k) h
   have rl2:=fun(F:Nat→V)=>dV (n:=g2.length) (F:=F)
   have qv:=fun(F:Nat→V) (G:Nat→B) (tl:List B)=>NH_v (e0:=26) (n:=g2.length) (F:=F) (G:=G) (tl:=tl) hl2
   have qsv:=fun(F:Nat→V) (G:Nat→B) (tl:List B) (b:B)=>dZ (e0:=26) (n:=g2.length) (F:=F) (G:=G) (tl:=tl) hl2 b
   have qs0:=fun(F:Nat→V) (G:Nat→B) (tl:List B) (y:V)=>kI (e0:=26) (n:=g2.length) (F:=F) (G:=G) (tl:=tl) k y
   have how:ow3 (fun v=>(ggt g2 v).length) k = .buf (k+3) 0 x.length x.length:=by rw[hxe];rfl
   have hbk:B.buf 3 1 (czL (ggt g2 k)) false=B.buf 3 1 (czL x) false:=by rw[hxe]
   have hcl:=bo x;have hca:=czL_app x (i:Int);have cap:=capI8z x.length (by omega)
   have hfin:A::B0::NH 26 g2.length (bG (ow3 fun v=>(ggt g2 v).length) k (.buf (k+3) 0 (x.length+1) (x.length+1))) (bG (fun v=>B.buf 3 1 (czL (ggt g2 v)) false) k (.buf 3 1 (czL (x++[(i:Int)])) false)) []=GL A B0 (grF l (i+1)):=by
    have e3:=ow3_set g2 k (x++[(i:Int)]) hl2;have e4:=bf_set g2 k (x++[(i:Int)]) hl2;rw[oT,qp]at e3;rw[hgs,e3];unfold GL;rw[←e4,pN];rfl
   have hGL:GL A B0 g2=A::B0::NH 26 g2.length (ow3 fun v=>(ggt g2 v).length) (fun v=>B.buf 3 1 (czL (ggt g2 v)) false) []:=rfl
   have hlf:(grF l (i+1)).length=g2.length:=by rw[hgs,pN]
   rw[hGL];refine wx ?_;simp -dsimp[q0,rg,rl2,qv,qsv,qs0,how,hbk,hcl,hca,cap.1,cap.2,hfin,hl2];refine wx ?_;simp -dsimp[wi];refine hN (i+1) _ _ (by omega) (by omega) (by simp[hlf]) ⟨[],by simp⟩ ?_ (GL_rb hA hB _);simp[fH,L1,aQ]
 ·obtain rfl:i=l.length:=by omega
  refine wx ?_;simp -dsimp[hb,hnl];refine hQ _ _ _ ?_;simp -dsimp[]
end
end
end Go.Proofs.YtdnhplencamncaaGreatDoor
namespace Go.Proofs.YtdnhplencamncaaGreatDoor
section
open Go Go.AM Go.RowKit
theorem infoClL:(Tryz.prog.info? 106).map (fun i=>(i.zero,i.size,i.bytes))=some (some (.slice none 0 0),1,24):=by kernel_rfl
theorem cloneEL(A:Option Addr)(cap:Nat)(w:World):
  Calls Tryz.prog 53 #[.slice A 0 cap] w fun e w'=>∃v,e = .returned v∧w'.ownsRow w.heap.size 106 1 v 0 []∧Below w.heap.size w w':=by
 have hnil:=fun W A n c=>Lib.run_eql_slice_nil (P:=Tryz.prog) W 39 106 A n c 0 0 Tryz.underlying39
 cases A with
 | none =>
  go_enter Tryz.func53,Tryz.ntmps53
  go_wp2
  go_ret
  exact⟨_,rfl,World.ownsRow_nil _ _ _ _,Below.refl _ _⟩
 | some ad =>
  obtain⟨i0,hi,hz0,hz1,hz2⟩:=info_parts infoClL;have hown:(w.alloc (.cells #[] 106)).ownsRow w.heap.size 106 1 (.slice (some ⟨w.heap.size,0,none⟩) 0 0) 0 []:=World.ownsRow_lit w #[] 0 (oJ _) (by simp[maxLen]) (by simp)
  have hnews:∀j u,([]:List Value)[j]?=some u→(w.alloc (.cells #[] 106)).cell? (ad.add j)=some u:=by
   intro j u hu;simp at hu
  have hone:∀u∈([]:List Value),u.oneCell'=true:=by intro u hu;cases hu
  have h63:0+0≤maxLen:=by simp[maxLen]
  have hby:(0+0)*24≤140737488355328:=by omega
  have hlen:([]:List Value).length=0*1:=by simp
  have Hi:=Lib.hid (show Tryz.prog.info? 106=some i0∧i0.zero=some _∧i0.size=1∧i0.bytes=24 from⟨hi,hz0,hz1,hz2⟩);have Hw:=Lib.hid (And.intro hown (And.intro hnews (And.intro hone (And.intro h63 (And.intro hby hlen)))));clear hnews hone hown hi hz0 hz1 hz2 h63 hby hlen
  go_enter Tryz.func53,Tryz.ntmps53
  go_wp2_with (at_builtin;refine wpList_append_own _ rfl _ _ 39 rfl w.heap.size 106 i0 _ 1 24 Tryz.underlying39 Hi.out.1 Hi.out.2.1 Hi.out.2.2.1 Hi.out.2.2.2 rfl (by omega) (.slice (some ⟨w.heap.size,0,none⟩) 0 0) 0 [] rfl Hw.out.1 ad 0 cap [] rfl Hw.out.2.2.2.2.2 Hw.out.2.1 Hw.out.2.2.1 Hw.out.2.2.2.1 Hw.out.2.2.2.2.1 (by simp) ?_;intro v1 w1 ho hg hn;have Ho:=Lib.hid ho;have Hg:=Lib.hid hg;have Hn:=Lib.hid hn;clear ho hg hn)
  go_ret
  exact⟨v1,rfl,by have:=Ho.out;simpa using this,((Below.refl _ _).alloc (oJ _) _).grown Hg.out (by simp) (by simp[Value.ownBlock])⟩
theorem cloneL(xs:List (List Int))(f:Bool)(hl:xs.length≤1000000):dr Tryz.prog 53 [LLz f xs] fun e z ys=>e=106∧z=1∧ys=xs.map (L1 false):=by
 cases xs with
 | nil =>
  refine nc ⟨Tryz.f53,Tryz.func53,rfl,rfl⟩ (fun F w vals hsz hrel=>?_)
  obtain⟨u0,rfl⟩:∃u0,vals = #[u0]:=by
   obtain⟨l⟩:=vals
   match l,hsz with
   | [a],_=>exact⟨a,rfl⟩
  have r0:=hrel 0 _ u0 rfl rfl;simp only[LLz,pJ]at r0;cases r0;exact cloneEL _ _ _
 | cons x xs =>
  have hl':xs.length≤1000000:=by simp only[og]at hl;omega
  refine sOx Tryz.func53 rfl rfl ?_;simp -dsimp[Tryz.f53,oE,LLz,L1,eK,nu xs.length (by omega)];exact⟨0,106,1,L1 false x::xs.map (L1 false),by simp,rfl,by simp,rfl,rfl,rfl⟩
end
end Go.Proofs.YtdnhplencamncaaGreatDoor
