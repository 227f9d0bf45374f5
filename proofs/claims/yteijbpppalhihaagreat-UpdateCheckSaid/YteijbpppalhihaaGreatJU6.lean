/- JU6: own texts of this seat, joined and shortened by pack.py: H14, H15, H16, H17, C3, H18, H19, OwB, H20, H22, H23, H21, H24, Q6, V12, U7, Mp, T12, ClS, Z1, Z2, Z5, Q7. -/
import Derived.Test.YteijbpppalhihaaGreatJU5
set_option linter.unusedVariables false
set_option linter.unusedSimpArgs false
set_option maxRecDepth 100000
set_option maxHeartbeats 64000000
namespace Go.Proofs.YteijbpppalhihaaGreat
section
open Go Go.AM
section
theorem rb_sh{N:Nat}(l:List Shr)(fz:Bool):rbB N (.buf 151 2 (l.map aQ) fz):=(rbB_buf1 (fun x hx=>by obtain⟨y,_,rfl⟩:=List.mem_map.1 hx;exact⟨encSh_pure y,encSh_oneV y⟩)).2 trivial
section
variable {H:List B} {k0 km:Nat} {f g:Bool} {ws:List Int} {es:List (List Nat)} {n:Nat} {m:List Nat} {lf:Int}
def rmOk(n:Nat)(A:Int)(rm:List Int):Prop:=rm.length=n∧∀v<n,-A≤rm.getD v 0∧rm.getD v 0≤1000000
theorem rmOk.set{n:Nat}{A A':Int}{rm:List Int}(h:rmOk n A rm)(hA:A≤A'){v:Nat}(hv:v<n){a:Int}(h0 : -A'≤rm.getD v 0-a)(h1:rm.getD v 0-a≤1000000):rmOk n A' (rm.set v (rm.getD v 0-a)):=by
 refine⟨by simp[h.1],fun u hu=>?_⟩;by_cases e:v=u
 ·subst e;rw[aX _ (by rw[h.1];exact hv)];exact⟨h0,h1⟩
 ·rw[af _ e];have:=h.2 u hu;exact⟨by omega,this.2⟩
theorem packing_h(s:SAt H k0 km f g ws es n m lf)(hb:HsB ws es):
  az Tryz.prog 147 [.ptr k0 0] H fun r H'=>r = .tup [LSh false (eQ ws es m).1,.int .i64 (eQ ws es m).2]∧H'=H:=by
 refine fW ?_ (by intro c hc;simp at hc;rcases hc with rfl | rfl;exact oo (LSh_pure _ _) rfl;trivial) s.rb;have h0:=s.h0;have hm:=s.hm;have hnl:=aw m;have hlm:=s.lm;have hlw:=s.lw;have hk0:k0<H.length:=aE s.h0;have hkm:km<H.length:=aE s.hm
 have hn2:n≤200:=by have:=hb.n;omega
 have he2:=hb.ne;obtain⟨E,hE⟩:∃E,E=eQ ws es m:=⟨_,rfl⟩;rw[←hE];unfold eQ at hE;have cc:=clone64 ws f (by omega)
 have sN:∀(rm:List Int) (G:List B),(∀bl∈G,rbB (H.length+1+G.length) bl)→SAt (H++(B.buf 2 1 (inL rm) false::G)) k0 km f g ws es n m lf:=fun rm G hG=>s.app (B.buf 2 1 (inL rm) false::G) (by
  intro bl h
  rcases List.mem_cons.1 h with rfl | h
  ·exact(rbB_buf1 (iE _)).2 trivial
  ·exact rbBM (by simp;omega) (hG bl h))
 refine aD tok Tryz.func147 rfl rfl ?_;refine wx ?_;simp -implicitDefEqProofs -dsimp[Tryz.f147,List.replicate,h0,LLn,Ln];refine(ep cc (by simp)).mono ?_;rintro r H' ⟨e0,z0,xs0,rfl,rfl,hp0,rfl,rfl,rfl⟩;have hin:ws.map ac=inL ws:=rfl;have s1:=sN ws [] (by simp);have h01:=s1.h0
 have hil:(inL ws).length=n:=by rw[ee,hlw]
 simp -implicitDefEqProofs -dsimp[hin,h01,hil,LLn,Ln];refine aK (gG 151 2 [5] (by simp) (W_loopM 81 [5,6,7,8,9,11,13,26,27,28,29,30,31,32,33,34,35,36,37,38,39,40,41,42,43,44,45,46,47,48,49,50,51,52,53,54,55,56,57,58,59,60,61,62,63,64,65,66,67,68,69,70,71,72,73,74,75,76,77,78,79,80] (by simp[mB]<;>rfl) (σ:=Nat×List Int×List Shr×Int) (fun p=>p.1≤es.length∧p.2.2.1++(cO m (es.drop p.1) p.1 p.2.1).1=E.1∧p.2.2.2+(cO m (es.drop p.1) p.1 p.2.1).2=E.2∧rmOk n (p.1*200000000) p.2.1∧(∀v<n,m.getD v 0=0→0≤p.2.1.getD v 0)∧0≤p.2.2.2∧p.2.2.2≤p.1*1000000∧p.2.2.1.length≤p.1) (fun p=>es.length-p.1) (fun p=>[(26,.int .i64 p.1),(5,.buf (H.length+1) 0 p.2.2.1.length p.2.2.1.length),(6,.int .i64 p.2.2.2)]) (fun p=>H++[.buf 2 1 (inL p.2.1) false,.buf 151 2 (p.2.2.1.map aQ) false]) (0,ws,[],0) ⟨by simp,by rw[List.drop_zero,List.nil_append];rw[hE],by rw[List.drop_zero,Int.zero_add];rw[hE],⟨hlw,fun v hv=>by have:=hb.w v (by omega);simp only;omega⟩,fun v hv _=>by have:=hb.w v (by omega);simp only;omega,by simp,by simp,by simp⟩ (by simp) (by simp) (by simp) ?_));rintro⟨i,rm,out,sm⟩ ⟨hi,hx1,hx2,hr,hr0,hs0,hs1,ho⟩ N Q hN hQ;simp only at hi hx1 hx2 hr hr0 hs0 hs1 ho hN
 have g5:(H++[B.buf 2 1 (inL rm) false,B.buf 151 2 (out.map aQ) false])[H.length+1]?=some (B.buf 151 2 (out.map aQ) false):=by simp
 by_cases hbi:i<es.length
 ·rw[List.drop_eq_getElem_cons hbi,cO]at hx1 hx2;have hmem:=List.getElem_mem hbi;obtain⟨e1,e2,e3⟩:=hb.ed es[i] hmem;have e4:=hb.ed.len es[i] hmem;obtain⟨e,he⟩:∃e,e=es[i]:=⟨_,rfl⟩;rw[←he]at hx1 hx2 e1 e2 e3 e4;have hei:=he.symm;have s2:=sN rm [B.buf 151 2 (out.map aQ) false] (by intro bl h;rcases List.mem_cons.1 h with rfl | h;exact rb_sh _ _;cases h);have ch:=has_h s2 e false 1 (by omega) (fun v hv=>by have:=e3 v hv;omega);simp only[Ln]at ch;have g0:=s2.h0;have gm:=s2.hm
  cases hh:fJ m 1 e with
  | true =>
   rw[hh]at ch;rw[if_pos hh]at hx1 hx2;refine wx ?_;simp -implicitDefEqProofs -dsimp[hbi,hei,LLn,Ln];refine bJ ch ?_;rintro _ _ ⟨rfl,rfl⟩;simp -implicitDefEqProofs -dsimp[aM i (by omega),LLn,Ln];refine hN (i+1,rm,out,sm) _ _ ⟨by simp only;omega,hx1,hx2,⟨hr.1,fun v hv=>by have:=hr.2 v hv;simp only;omega⟩,hr0,hs0,by simp only;omega,by simp only;omega⟩ (by simp only;omega) (by simp) ⟨[],by simp⟩ (by simp[L1];omega) s2.rb
  | false =>
   rw[hh]at ch;rw[if_neg (by simp[hh])]at hx1 hx2;obtain⟨q1,q2,q3,q4⟩:=oc (m:=m) e2 (fun v hv=>by have:=e3 v hv;omega) hr.1 hr0;obtain⟨A,hA⟩:∃A,A=fP m rm e 1000000:=⟨_,rfl⟩;rw[←hA]at hx1 hx2 q1 q2 q3 q4;refine wx ?_;simp -implicitDefEqProofs -dsimp[hbi,hei,LLn,Ln];refine bJ ch ?_;rintro _ _ ⟨rfl,rfl⟩;simp -implicitDefEqProofs -dsimp[LLn,Ln];refine aK (W_loopM 55 [9,11,36,37,38,39,40,41,42,43,44,45,46,47,48,49,50,51,52,53,54] (by simp[mB]<;>rfl) (σ:=Nat×Int) (fun q=>q.1≤e.length∧fP m rm (e.drop q.1) q.2=A∧0≤q.2∧q.2≤1000000) (fun q=>e.length-q.1) (fun q=>[(36,.int .i64 q.1),(9,.int .i64 q.2)]) (fun _=>H++[.buf 2 1 (inL rm) false,.buf 151 2 (out.map aQ) false]) (0,1000000) ⟨by simp,by rw[List.drop_zero];exact hA.symm,by simp,by simp⟩ (by simp) (by simp) (by simp) ?_);rintro⟨k,a⟩ ⟨hk,hy,ha0,ha1⟩ N2 Q2 hN2 hQ2;simp only at hk hy ha0 ha1 hN2;by_cases hbk:k<e.length
   ·rw[List.drop_eq_getElem_cons hbk,fP]at hy;have hvn:=e3 e[k] (List.getElem_mem hbk);obtain⟨v,hv⟩:∃v,v=e[k]:=⟨_,rfl⟩;rw[←hv]at hy hvn;have hev:=hv.symm
    have hvn2:v<n:=by omega
    have hat:=fun h=>bO (m:=m) (x:=v) h
    have hgl:=fun h=>ef (m:=rm) (x:=v) h
    have hll:=ee rm;have hl1:=hr.1
    have g9:(H++[B.buf 2 1 (inL rm) false,B.buf 151 2 (out.map aQ) false])[H.length]?=some (B.buf 2 1 (inL rm) false):=by simp
    obtain⟨z1,z2⟩:=hr.2 v hvn2;have hr0v:=hr0 v hvn2;obtain⟨mc,hmc⟩:∃mc,mc=m.getD v 0:=⟨_,rfl⟩;rw[←hmc]at hat hy hr0v;obtain⟨z,hz⟩:∃z,z=rm.getD v 0:=⟨_,rfl⟩;rw[←hz]at hgl hy z1 z2 hr0v;by_cases h00:mc=0
    ·subst h00;rw[if_pos rfl]at hy;have hr0z:=hr0v rfl;by_cases hlt:z<a
     ·rw[show min a z=z by omega]at hy;refine wx ?_;simp -implicitDefEqProofs -dsimp[hbk,hev,eN,g0,gm,hat,hnl,hlm,hvn2,g9,hgl,hll,hl1,hlt,LLn,Ln];simp -implicitDefEqProofs -dsimp[aM k (by omega),hlt,LLn,Ln];refine hN2 (k+1,z) _ _ ⟨by simp only;omega,hy,hr0z,by simp only;omega⟩ (by simp only;omega) (by simp) ⟨[],by simp⟩ (by simp[L1];omega) s2.rb
     ·rw[show min a z=a by omega]at hy;refine wx ?_;simp -implicitDefEqProofs -dsimp[hbk,hev,eN,g0,gm,hat,hnl,hlm,hvn2,g9,hgl,hll,hl1,hlt,LLn,Ln];simp -implicitDefEqProofs -dsimp[aM k (by omega),hlt,LLn,Ln];refine hN2 (k+1,a) _ _ ⟨by simp only;omega,hy,ha0,ha1⟩ (by simp only;omega) (by simp) ⟨[],by simp⟩ (by simp[L1];omega) s2.rb
    ·rw[if_neg h00]at hy;refine wx ?_;simp -implicitDefEqProofs -dsimp[hbk,hev,eN,g0,gm,hat,hnl,hlm,hvn2,h00,show ¬((mc:Int)=0) by omega,LLn,Ln];simp -implicitDefEqProofs -dsimp[aM k (by omega),LLn,Ln];refine hN2 (k+1,a) _ _ ⟨by simp only;omega,hy,ha0,ha1⟩ (by simp only;omega) (by simp) ⟨[],by simp⟩ (by simp[L1];omega) s2.rb
   ·rw[show e.drop k=[] from List.drop_of_length_le (by omega),fP]at hy;subst hy;by_cases ha:a=0
    ·subst ha;rw[if_pos rfl]at hx1 hx2;refine wx ?_;simp -implicitDefEqProofs -dsimp[hbk,LLn,Ln];refine hQ2 _ _ _ ?_;simp -implicitDefEqProofs -dsimp[aM i (by omega),LLn,Ln];refine hN (i+1,rm,out,sm) _ _ ⟨by simp only;omega,hx1,hx2,⟨hr.1,fun v hv=>by have:=hr.2 v hv;simp only;omega⟩,hr0,hs0,by simp only;omega,by simp only;omega⟩ (by simp only;omega) (by simp) ⟨[],by simp⟩ (by simp[L1];omega) s2.rb
    ·rw[if_neg ha]at hx1 hx2;obtain⟨R,hR⟩:∃R,R=lB a e rm:=⟨_,rfl⟩;rw[←hR]at hx1 hx2 q1 q2;refine wx ?_;simp -implicitDefEqProofs -dsimp[hbk,LLn,Ln];refine hQ2 _ _ _ ?_;simp -implicitDefEqProofs -dsimp[ha,LLn,Ln];refine aK (W_loopM 71 [13,59,60,61,62,63,64,65,66,67,68,69,70] (by simp[mB]<;>rfl) (σ:=Nat×List Int) (fun q=>q.1≤e.length∧lB a (e.drop q.1) q.2=R∧rmOk n (i*200000000+q.1*1000000) q.2) (fun q=>e.length-q.1) (fun q=>[(59,.int .i64 q.1)]) (fun q=>H++[.buf 2 1 (inL q.2) false,.buf 151 2 (out.map aQ) false]) (0,rm) ⟨by simp,by rw[List.drop_zero];exact hR.symm,by simpa using hr⟩ (by simp) (by simp) (by simp) ?_);rintro⟨k3,rm3⟩ ⟨hk3,hy3,hr3⟩ N3 Q3 hN3 hQ3;simp only at hk3 hy3 hr3 hN3;by_cases hbk3:k3<e.length
     ·rw[List.drop_eq_getElem_cons hbk3,lB]at hy3;have hvn:=e3 e[k3] (List.getElem_mem hbk3);obtain⟨v,hv⟩:∃v,v=e[k3]:=⟨_,rfl⟩;rw[←hv]at hy3 hvn;have hev:=hv.symm
      have hvn2:v<n:=by omega
      have hgl:=fun h=>ef (m:=rm3) (x:=v) h
      have hll:=ee rm3;have hl1:=hr3.1
      have g9:(H++[B.buf 2 1 (inL rm3) false,B.buf 151 2 (out.map aQ) false])[H.length]?=some (B.buf 2 1 (inL rm3) false):=by simp
      obtain⟨z1,z2⟩:=hr3.2 v hvn2;have hset:=hr3.set (A':=(i:Int)*200000000+((k3+1:Nat):Int)*1000000) (by omega) hvn2 (a:=a) (by omega) (by omega);have hst:=lV rm3 v (rm3.getD v 0-a);obtain⟨rm4,hrm4⟩:∃rm4,rm4=rm3.set v (rm3.getD v 0-a):=⟨_,rfl⟩;rw[←hrm4]at hy3 hset hst;obtain⟨z,hz⟩:∃z,z=rm3.getD v 0:=⟨_,rfl⟩;rw[←hz]at hgl hst z1 z2;have hw2:IntKind.i64.wrap (z-a)=z-a:=wrap64 (by omega) (by omega)
      have hs9:(H++[B.buf 2 1 (inL rm3) false,B.buf 151 2 (out.map aQ) false]).set H.length (B.buf 2 1 (inL rm4) false)=H++[B.buf 2 1 (inL rm4) false,B.buf 151 2 (out.map aQ) false]:=by simp[List.set_append_right]
      have s4:=sN rm4 [B.buf 151 2 (out.map aQ) false] (by intro bl h;rcases List.mem_cons.1 h with rfl | h;exact rb_sh _ _;cases h);refine wx ?_;simp -implicitDefEqProofs -dsimp[hbk3,hev,eN,hvn2,g9,hgl,hll,hl1,hw2,hst,hs9,LLn,Ln];simp -implicitDefEqProofs -dsimp[aM k3 (by omega),LLn,Ln];refine hN3 (k3+1,rm4) _ _ ⟨by simp only;omega,hy3,hset⟩ (by simp only;omega) (by simp) ⟨[],by simp⟩ (by simp[L1];omega) s4.rb
     ·rw[show e.drop k3=[] from List.drop_of_length_le (by omega),lB]at hy3;subst hy3
      have g5b:(H++[B.buf 2 1 (inL rm3) false,B.buf 151 2 (out.map aQ) false])[H.length+1]?=some (B.buf 151 2 (out.map aQ) false):=by simp
      have hs5:(H++[B.buf 2 1 (inL rm3) false,B.buf 151 2 (out.map aQ) false]).set (H.length+1) (B.buf 151 2 ((out++[(⟨(i:Int),a⟩:Shr)]).map aQ) false)=H++[B.buf 2 1 (inL rm3) false,B.buf 151 2 ((out++[(⟨(i:Int),a⟩:Shr)]).map aQ) false]:=by simp[List.set_append_right]
      have hoa:out.map aQ++[.agg [.int .i64 (i:Int),.int .i64 a]]=(out++[(⟨(i:Int),a⟩:Shr)]).map aQ:=by simp[aQ]
      have s6:=sN rm3 [B.buf 151 2 ((out++[(⟨(i:Int),a⟩:Shr)]).map aQ) false] (by intro bl h;rcases List.mem_cons.1 h with rfl | h;exact rb_sh _ _;cases h);have hw6:IntKind.i64.wrap (sm+a)=sm+a:=wrap64 (by omega) (by omega);refine wx ?_;simp -implicitDefEqProofs -dsimp[hbk3,LLn,Ln];refine hQ3 _ _ _ ?_;simp -implicitDefEqProofs -dsimp[g5b,hoa,hs5,hw6,aM i (by omega),show out.length≤9223372036854775806 by omega,show(out.length+1)*16≤140737488355328 by omega,LLn,Ln];refine hN (i+1,rm3,out++[(⟨(i:Int),a⟩:Shr)],sm+a) _ _ ⟨by simp only;omega,by simp only[List.append_assoc,List.cons_append,List.nil_append];exact hx1,by simp only;omega,⟨q1,fun v hv=>by have:=hr3.2 v hv;simp only;omega⟩,q2,by simp only;omega,by simp only;omega,by simp;omega⟩ (by simp only;omega) (by simp) ⟨[],by simp⟩ (by simp[L1];omega) s6.rb
 ·rw[show es.drop i=[] from List.drop_of_length_le (by omega),cO]at hx1 hx2;rw[List.append_nil]at hx1;rw[Int.add_zero]at hx2;refine W_frz (H.length+1) [5] g5 (by simp) ?_;refine wx ?_;simp -implicitDefEqProofs -dsimp[hbi,LLn,Ln];refine hQ _ _ _ ?_;simp -implicitDefEqProofs -dsimp[LLn,Ln];exact⟨by rw[←hx1];rfl,hx2⟩
end
end
section
def bcl(fl:Bool)(b:Bst):B:=.cells [.lst 1 fl (b.l.map eN),.int .i64 b.w]
theorem bcl_rb(N:Nat)(fl:Bool)(b:Bst):rbB N (bcl fl b):=by
 intro c hc;simp only[List.mem_cons,List.not_mem_nil,or_false]at hc
 rcases hc with rfl | rfl
 ·exact cG (Ln_pure fl b.l) rfl
 ·trivial
section
variable (H:List B) (k0 km kb:Nat) (f g:Bool) (ws:List Int) (es:List (List Nat))
def HS(lf:Int)(m:List Nat)(c:B):List B:=((H.set k0 (scl f g ws es km ws.length lf)).set km (.buf 3 1 (nuL m) false)).set kb c
end
structure BOk (H:List B) (k0 km kb:Nat):Prop where
 l0:k0<H.length
 lm:km<H.length
 lb:kb<H.length
 n0:km≠k0
 n1:kb≠k0
 n2:kb≠km
 rb:∀bl∈H,rbB H.length bl
section
variable {H:List B} {k0 km kb:Nat} {f g:Bool} {ws:List Int} {es:List (List Nat)} {lf:Int} {m:List Nat} {c:B}
theorem cW:(HS H k0 km kb f g ws es lf m c).length=H.length:=by simp[HS]
theorem BOk.at0(o:BOk H k0 km kb):(HS H k0 km kb f g ws es lf m c)[k0]?=some (.cells [L1 f ws,LLn g es,.buf km 0 ws.length ws.length,.int .i64 lf]):=by
 unfold HS;rw[List.getElem?_set_ne o.n1,List.getElem?_set_ne o.n0,List.getElem?_set_self o.l0];rfl
theorem BOk.atm(o:BOk H k0 km kb):(HS H k0 km kb f g ws es lf m c)[km]?=some (.buf 3 1 (nuL m) false):=by
 unfold HS;rw[List.getElem?_set_ne o.n2,List.getElem?_set_self (by simp;exact o.lm)]
theorem BOk.atb(o:BOk H k0 km kb):(HS H k0 km kb f g ws es lf m c)[kb]?=some c:=by
 unfold HS;rw[List.getElem?_set_self (by simp;exact o.lb)]
theorem BOk.set0(o:BOk H k0 km kb)(lf':Int):(HS H k0 km kb f g ws es lf m c).set k0 (scl f g ws es km ws.length lf')=HS H k0 km kb f g ws es lf' m c:=by
 unfold HS;rw[List.set_comm _ _ o.n1,List.set_comm _ _ o.n0,List.set_set]
theorem BOk.setm(o:BOk H k0 km kb)(m':List Nat):(HS H k0 km kb f g ws es lf m c).set km (.buf 3 1 (nuL m') false)=HS H k0 km kb f g ws es lf m' c:=by
 unfold HS;rw[List.set_comm _ _ o.n2,List.set_set]
theorem BOk.setb(o:BOk H k0 km kb)(c':B):(HS H k0 km kb f g ws es lf m c).set kb c'=HS H k0 km kb f g ws es lf m c':=by
 unfold HS;rw[List.set_set]
theorem BOk.rbs(o:BOk H k0 km kb)(hc:rbB H.length c):∀bl∈HS H k0 km kb f g ws es lf m c,rbB (HS H k0 km kb f g ws es lf m c).length bl:=by
 have h1:=fF o.rb (k:=k0) (b:=scl f g ws es km ws.length lf) (scl_rb f g ws es ws.length lf o.lm);have h2:=fF h1 (k:=km) (b:=.buf 3 1 (nuL m) false) ((rbB_buf1 (cY m)).2 trivial);exact fF h2 (by simpa using hc)
theorem BOk.sat(o:BOk H k0 km kb)(hc:rbB H.length c)(hm:m.length=ws.length):SAt (HS H k0 km kb f g ws es lf m c) k0 km f g ws es ws.length m lf :=
 ⟨o.at0,o.atm,o.rbs hc,hm,rfl,o.n0⟩
theorem lN{ws:List Int}{es:List (List Nat)}{P:Int×Bst} : ∀(k:Nat) (m:List Nat) (lf:Int) (b:Bst) (w:Int),mb ws es k m lf b w=some P→P.1≤lf
 | 0,_,_,_,_,h=>by simp[mb]at h
 | k+1,m,lf,b,w,h=>by
  rw[mb]at h;split at h
  ·cases h
  ·split at h
   ·cases h;simp only;omega
   ·split at h
    ·cases h;simp only;omega
    ·split at h
     ·cases h;simp only;omega
     ·split at h
      ·cases h
      ·rename_i p hp;have h1:=lN (P:=p) k _ _ _ _ hp;have h2:=lN (P:=P) k _ _ _ _ h;omega
theorem chosen_take(m:List Nat)(i:Nat)(h:i<m.length):(List.range (i+1)).filter (fun v=>decide (m.getD v 0=1))=(List.range i).filter (fun v=>decide (m.getD v 0=1))++if m.getD i 0=1 then [i] else []:=by
 rw[List.range_succ,List.filter_append];congr 1;by_cases hq:m.getD i 0=1
 ·rw[if_pos hq,List.filter_cons,if_pos (decide_eq_true hq)];rfl
 ·rw[if_neg hq,List.filter_cons,if_neg (by rw[decide_eq_false hq];simp)];rfl
def QB(H:List B)(k0 km kb:Nat)(f g:Bool)(ws:List Int)(es:List (List Nat))(lf:Int)(m:List Nat)(b:Bst)(H':List B):Prop:=∃fl,H'=HS H k0 km kb f g ws es lf m (bcl fl b)
def QT(H:List B)(k0 km kb:Nat)(f g:Bool)(ws:List Int)(es:List (List Nat))(lf:Int)(m:List Nat)(b:Bst)(H':List B):Prop:=∃fl G,H'=HS H k0 km kb f g ws es lf m (bcl fl b)++G
theorem min_cut{k:FuncId}{args:List V}{H0:List B}{b:Bst}(o:BOk H k0 km kb)(h0:H0.length≤H.length)(hq:az Tryz.prog k args H0 fun r H'=>r = .bool true∧QT H k0 km kb f g ws es lf m b H'):az Tryz.prog k args H0 fun r H'=>r = .bool true∧QB H k0 km kb f g ws es lf m b H':=by
 refine(mu (σ:=Bool) (ok:=fun _=>True) (rf:=fun _=>.bool true) (Hf:=fun x=>HS H k0 km kb f g ws es lf m (bcl x b)) (hq.mono fun r H' ⟨h1,fl,G,h2⟩=>⟨fl,trivial,h1,G,h2⟩) (fun x _=>by rw[cW];exact h0) (fun x _=>by simp[rb,rb1]) (fun x _=>o.rbs (bcl_rb _ _ _))).mono ?_;rintro r H' ⟨x,_,h1,h2⟩;exact⟨h1,x,h2⟩
def chT(m:List Nat)(i:Nat):List Nat:=(List.range i).filter fun v=>decide (m.getD v 0=1)
theorem chT_succ(m:List Nat)(i:Nat)(h:i<m.length):chT m (i+1)=chT m i++if m.getD i 0=1 then [i] else []:=chosen_take m i h
theorem chT_len(m:List Nat)(i:Nat):(chT m i).length≤i:=by
 have:=List.length_filter_le (fun v=>decide (m.getD v 0=1)) (List.range i);simpa[chT] using this
theorem HS_append(c:B)(X:B)(k:Nat)(Y:B)(h:k<H.length):(HS H k0 km kb f g ws es lf m c++[X]).set k Y=(HS H k0 km kb f g ws es lf m c).set k Y++[X]:=by
 rw[List.set_append_left _ _ (by rw[cW];exact h)]
theorem minimum_h(o:BOk H k0 km kb)(hb:HsB ws es)(k:Nat):∀(m:List Nat) (lf:Int) (b:Bst) (fl:Bool) (w:Int) (P:Int×Bst),m.length=ws.length→mb ws es k m lf b w=some P→-9000000000000000000≤P.1→lf≤9000000000000000000→0≤w→w≤4000000000000000000-1000000*(k:Int)→
  az Tryz.prog 106 [.ptr k0 0,.ptr kb 0,.int .i64 w] (HS H k0 km kb f g ws es lf m (bcl fl b)) fun r H'=>r = .bool true∧QB H k0 km kb f g ws es P.1 m P.2 H':=by
 induction k with
 | zero=>intro m lf b fl w P hm h;simp[mb]at h
 | succ k ih =>
  intro m lf b fl w P hm h hP hlf hw0 hw1;have hle:=lN _ _ _ _ _ h;rw[mb]at h
  have hnl:¬lf-1<0:=by
   intro hq;rw[if_pos hq]at h;cases h
  rw[if_neg hnl]at h;refine min_cut o (by rw[cW];exact Nat.le_refl _) ?_;have hcr:=bcl_rb H.length fl b;have s0:=o.sat (f:=f) (g:=g) (ws:=ws) (es:=es) (lf:=lf) (m:=m) hcr hm;have s1:=o.sat (f:=f) (g:=g) (ws:=ws) (es:=es) (lf:=lf-1) (m:=m) hcr hm;have c1:=spend_h s0 (by omega) hlf;rw[o.set0]at c1;rw[decide_eq_true (show 0≤lf-1 by omega)]at c1
  have hes:es.length≤1000000:=by have:=hb.ne;omega
  have hel:∀e∈es,e.length≤1000000:=fun e he=>by have:=hb.ed.len e he;have:=hb.n;omega
  have c2:=dead_h s1 hb.ed hes hel;have c3:=packing_h s1 hb;have c4:=branch_h s1 hb;have hpk:=ie (m:=m) hb.ed es 0 ws (by simp) rfl (fun v hv _=>by have:=(hb.w v hv).1;omega);obtain⟨_,_,_,_,p5,p6⟩:=hpk;have he2:=hb.ne;have gb:(HS H k0 km kb f g ws es (lf-1) m (bcl fl b))[kb]?=some (.cells [.lst 1 fl (b.l.map eN),.int .i64 b.w]):=o.atb;have g0:=s1.h0;have gm:=s1.hm;have hml:=aw m;obtain⟨D,hD⟩:∃D,D=fA m es:=⟨_,rfl⟩;rw[←hD]at c2 h
  change 0≤(eQ ws es m).2 at p6
  change (eQ ws es m).2≤_ at p5
  obtain⟨S,hS⟩:∃S,S=eQ ws es m:=⟨_,rfl⟩;rw[←hS]at c3 h p5 p6;have hbr:=mN hb.ed m;obtain⟨br,hbre⟩:∃br,br=brS es m:=⟨_,rfl⟩;rw[←hbre]at c4 h hbr;have hw2:IntKind.i64.wrap (w+S.2)=w+S.2:=wrap64 (by omega) (by omega);refine aD tok Tryz.func106 rfl rfl ?_;refine wx ?_;simp -implicitDefEqProofs -dsimp[Tryz.f106,List.replicate];refine bJ c1 ?_;rintro _ _ ⟨rfl,rfl⟩;simp -implicitDefEqProofs -dsimp[];refine bJ c2 ?_;rintro _ _ ⟨rfl,rfl⟩
  cases D with
  | true =>
   rw[if_pos rfl]at h;cases h;simp -implicitDefEqProofs -dsimp[];exact⟨fl,[],by rw[List.append_nil]⟩
  | false =>
   rw[if_neg (by simp)]at h;simp -implicitDefEqProofs -dsimp[];refine bJ c3 ?_;rintro _ _ ⟨rfl,rfl⟩;by_cases hq:b.w≤w+S.2
   ·rw[if_pos hq]at h;cases h;simp -implicitDefEqProofs -dsimp[gb,hw2,hq];exact⟨fl,[],by rw[List.append_nil]⟩
   ·rw[if_neg hq]at h;simp -implicitDefEqProofs -dsimp[gb,hw2,hq];refine bJ c4 ?_;rintro _ _ ⟨rfl,rfl⟩;by_cases hbn:br<0
    ·rw[if_pos hbn]at h;cases h;have hs1:(HS H k0 km kb f g ws es (lf-1) m (bcl fl b)).set kb (.cells [.nilS,.int .i64 b.w])=HS H k0 km kb f g ws es (lf-1) m (.cells [.nilS,.int .i64 b.w]):=o.setb _;have gb1:(HS H k0 km kb f g ws es (lf-1) m (.cells [.nilS,.int .i64 b.w]))[kb]?=some (.cells [.nilS,.int .i64 b.w]):=o.atb;have hs2:(HS H k0 km kb f g ws es (lf-1) m (.cells [.nilS,.int .i64 b.w])).set kb (.cells [.nilS,.int .i64 w])=HS H k0 km kb f g ws es (lf-1) m (.cells [.nilS,.int .i64 w]):=o.setb _;have gb2:(HS H k0 km kb f g ws es (lf-1) m (.cells [.nilS,.int .i64 w]))[kb]?=some (.cells [.nilS,.int .i64 w]):=o.atb;have g02:=o.at0 (f:=f) (g:=g) (ws:=ws) (es:=es) (lf:=lf-1) (m:=m) (c:=.cells [.nilS,.int .i64 w]);have gm2:=o.atm (f:=f) (g:=g) (ws:=ws) (es:=es) (lf:=lf-1) (m:=m) (c:=.cells [.nilS,.int .i64 w]);have hn2:=hb.n;simp -implicitDefEqProofs -dsimp[hbn,gb,hs1,gb1,hs2,g02,gm2,hml,hm];refine aK (co 3 1 [] kb [0] (cs:=[.nilS,.int .i64 w]) gb2 (by simp) (by simp) (W_loopM 65 [10,11,47,48,49,50,51,52,53,54,55,56,57,58,59,60,61,62,63,64] (by simp[mB]<;>rfl) (σ:=Nat) (fun i=>i≤ws.length) (fun i=>ws.length-i) (fun i=>[(47,.int .i64 i)]) (fun i=>HS H k0 km kb f g ws es (lf-1) m (.cells [.buf H.length 0 (chT m i).length (chT m i).length,.int .i64 w])++[.buf 3 1 (nuL (chT m i)) false]) 0 (by omega) (by simp) (by simp[o.setb,cW,chT,nuL]) (by simp[cW]) ?_));intro i hi N Q hN hQ
     have kN:(HS H k0 km kb f g ws es (lf-1) m (.cells [.buf H.length 0 (chT m i).length (chT m i).length,.int .i64 w])++[B.buf 3 1 (nuL (chT m i)) false])[H.length]?=some (B.buf 3 1 (nuL (chT m i)) false):=by
      rw[List.getElem?_append_right (by rw[cW];exact Nat.le_refl _),cW];simp
     have kb1:(HS H k0 km kb f g ws es (lf-1) m (.cells [.buf H.length 0 (chT m i).length (chT m i).length,.int .i64 w])++[B.buf 3 1 (nuL (chT m i)) false])[kb]?=some (.cells [.buf H.length 0 (chT m i).length (chT m i).length,.int .i64 w]):=by
      rw[List.getElem?_append_left (by rw[cW];exact o.lb)];exact o.atb
     have km1:(HS H k0 km kb f g ws es (lf-1) m (.cells [.buf H.length 0 (chT m i).length (chT m i).length,.int .i64 w])++[B.buf 3 1 (nuL (chT m i)) false])[km]?=some (.buf 3 1 (nuL m) false):=by
      rw[List.getElem?_append_left (by rw[cW];exact o.lm)];exact o.atm
     have hcl:=chT_len m i;by_cases hbi:i<ws.length
     ·have hat:=fun h=>bO (m:=m) (x:=i) h
      have hsu:=chT_succ m i (by omega);obtain⟨mc,hmc⟩:∃mc,mc=m.getD i 0:=⟨_,rfl⟩;rw[←hmc]at hat hsu
      have srb:∀(j:Nat) (l:List Nat),∀bl∈HS H k0 km kb f g ws es (lf-1) m (.cells [.buf H.length 0 j j,.int .i64 w])++[B.buf 3 1 (nuL l) false],rbB (HS H k0 km kb f g ws es (lf-1) m (.cells [.buf H.length 0 j j,.int .i64 w])++[B.buf 3 1 (nuL l) false]).length bl:=fun j l=>by
       intro bl hbl;have h1:=fF o.rb (k:=k0) (b:=scl f g ws es km ws.length (lf-1)) (scl_rb f g ws es ws.length (lf-1) o.lm);have h2:=fF h1 (k:=km) (b:=.buf 3 1 (nuL m) false) ((rbB_buf1 (cY m)).2 trivial);rw[List.length_append,cW]
       rcases List.mem_append.1 hbl with h3 | h3
       ·rcases List.mem_or_eq_of_mem_set h3 with h4 | rfl
        ·exact rbBM (by simp) (h2 bl h4)
        ·simp[rbB,rb,rb1]
       ·rcases List.mem_cons.1 h3 with rfl | h3
        ·exact(rbB_buf1 (cY _)).2 trivial
        ·cases h3
      by_cases hq1:mc=1
      ·subst hq1;rw[if_pos rfl]at hsu
       have hna:nuL (chT m i)++[.int .i64 (i:Int)]=nuL (chT m (i+1)):=by rw[hsu];simp[nuL,eN]
       have hln:(chT m (i+1)).length=(chT m i).length+1:=by rw[hsu];simp
       have hnl1:=aw (chT m i)
       have hsN:(HS H k0 km kb f g ws es (lf-1) m (.cells [.buf H.length 0 (chT m i).length (chT m i).length,.int .i64 w])++[B.buf 3 1 (nuL (chT m i)) false]).set H.length (B.buf 3 1 (nuL (chT m (i+1))) false)=HS H k0 km kb f g ws es (lf-1) m (.cells [.buf H.length 0 (chT m i).length (chT m i).length,.int .i64 w])++[B.buf 3 1 (nuL (chT m (i+1))) false]:=by
        rw[List.set_append_right _ _ (by rw[cW];exact Nat.le_refl _),cW,Nat.sub_self];rfl
       have hsK:(HS H k0 km kb f g ws es (lf-1) m (.cells [.buf H.length 0 (chT m i).length (chT m i).length,.int .i64 w])++[B.buf 3 1 (nuL (chT m (i+1))) false]).set kb (.cells [.buf H.length 0 ((chT m i).length+1) ((chT m i).length+1),.int .i64 w])=HS H k0 km kb f g ws es (lf-1) m (.cells [.buf H.length 0 ((chT m i).length+1) ((chT m i).length+1),.int .i64 w])++[B.buf 3 1 (nuL (chT m (i+1))) false]:=by
        rw[HS_append _ _ _ _ o.lb,o.setb]
       have kb2:(HS H k0 km kb f g ws es (lf-1) m (.cells [.buf H.length 0 (chT m i).length (chT m i).length,.int .i64 w])++[B.buf 3 1 (nuL (chT m (i+1))) false])[kb]?=some (.cells [.buf H.length 0 (chT m i).length (chT m i).length,.int .i64 w]):=by
        rw[List.getElem?_append_left (by rw[cW];exact o.lb)];exact o.atb
       refine wx ?_;simp -implicitDefEqProofs -dsimp[hbi,km1,hat,hml,hm,kb1,kN,hna,hnl1,hsN,hsK,kb2,aM i (by omega),show(chT m i).length≤9223372036854775806 by omega,show((chT m i).length+1)*8≤140737488355328 by omega];refine hN (i+1) _ _ (by omega) (by omega) (by simp[hln]) ⟨[],by simp[hln]⟩ ?_ (by simp only[hln];exact srb _ _);have h1:=o.l0;have h2:=o.lm;have h3:=o.lb;simp[cW,LSh];omega
      ·rw[if_neg hq1,List.append_nil]at hsu;refine wx ?_;simp -implicitDefEqProofs -dsimp[hbi,km1,hat,hml,hm,hq1,show ¬((mc:Int)=1) by omega,aM i (by omega)];refine hN (i+1) _ _ (by omega) (by omega) (by simp[hsu]) ⟨[],by simp[hsu]⟩ ?_ (by simp only[hsu];exact srb _ _);have h1:=o.l0;have h2:=o.lm;have h3:=o.lb;simp[cW,LSh];omega
     ·obtain rfl:i=ws.length:=by omega
      have hnu:=aw (chT m ws.length);refine jh H.length [] kb [0] kN kb1 (by simp) (by simp[hnu]) ?_;refine wx ?_;simp -implicitDefEqProofs -dsimp[hbi];refine hQ _ _ _ ?_;simp -implicitDefEqProofs -dsimp[];refine⟨false,[B.buf 3 1 (nuL (chT m ws.length)) true],?_⟩;rw[List.set_append_right _ _ (by rw[cW];exact Nat.le_refl _),cW,Nat.sub_self,show [B.buf 3 1 (nuL (chT m ws.length)) false].set 0 (B.buf 3 1 (nuL (chT m ws.length)) true)=[B.buf 3 1 (nuL (chT m ws.length)) true] from rfl,HS_append _ _ _ _ o.lb,o.setb];unfold bcl chosenL;rw[hm];rfl
    ·rw[if_neg hbn]at h
     rcases hbr with⟨hbr,_⟩ | ⟨hv1,hv2,hv3⟩
     ·exact absurd hbr hbn
     obtain⟨v,rfl⟩:∃v:Nat,br=v:=⟨br.toNat,by omega⟩;rw[Int.toNat_natCast]at hv1 hv3 h;have hwl:=(ak ws 0 hv1).symm;have hwb:=hb.w v hv1;obtain⟨wv,hwv⟩:∃wv,wv=ws.getD v 0:=⟨_,rfl⟩;rw[←hwv]at hwl hwb h;have hww:IntKind.i64.wrap (w+wv)=w+wv:=wrap64 (by omega) (by omega)
     have hm0:m.set v 0=m:=by
      have:m[v]'(by omega)=0:=by rw[←ak m 0 (by omega)];exact hv3
      conv=>rhs;rw[←List.set_getElem_self (show v<m.length by omega)]
      rw[this]
     have hat:=fun h=>bO (m:=m) (x:=v) h
     rw[hv3]at hat
     have hat1:=fun h=>bO (m:=m.set v 1) (x:=v) h
     have hat2:=fun h=>bO (m:=m.set v 2) (x:=v) h
     have nl1:=aw (m.set v 1);have nl2:=aw (m.set v 2);rw[List.length_set]at nl1 nl2;have hst1:(nuL m).set v (.int .i64 1)=nuL (m.set v 1):=cR m v 1;have hst2:(nuL (m.set v 1)).set v (.int .i64 2)=nuL (m.set v 2):=(cR (m.set v 1) v 2).trans (by rw[List.set_set]);have hst3:(nuL (m.set v 2)).set v (.int .i64 0)=nuL m:=(cR (m.set v 2) v 0).trans (by rw[List.set_set,hm0]);have k1:=o.setm (f:=f) (g:=g) (ws:=ws) (es:=es) (lf:=lf-1) (m:=m) (c:=bcl fl b) (m.set v 1);have k10:=o.at0 (f:=f) (g:=g) (ws:=ws) (es:=es) (lf:=lf-1) (m:=m.set v 1) (c:=bcl fl b)
     cases hp:mb ws es k (m.set v 1) (lf-1) b (w+wv) with
     | none=>rw[hp]at h;cases h
     | some p =>
      rw[hp]at h;simp only at h;have l1:=lN _ _ _ _ _ hp;have l2:=lN _ _ _ _ _ h;have i1:=ih (m.set v 1) (lf-1) b fl (w+wv) p (by simp[hm]) hp (by omega) (by omega) (by omega) (by omega);simp -implicitDefEqProofs -dsimp[hbn,g0,gm,hat,hml,hm,hv1,hst1,k1,k10,hwl,hww,L1,ac];refine bJ i1 ?_;rintro _ _ ⟨rfl,fl1,rfl⟩;have j0:=o.at0 (f:=f) (g:=g) (ws:=ws) (es:=es) (lf:=p.1) (m:=m.set v 1) (c:=bcl fl1 p.2);have jm:=o.atm (f:=f) (g:=g) (ws:=ws) (es:=es) (lf:=p.1) (m:=m.set v 1) (c:=bcl fl1 p.2);have js:=o.setm (f:=f) (g:=g) (ws:=ws) (es:=es) (lf:=p.1) (m:=m.set v 1) (c:=bcl fl1 p.2) (m.set v 2);have i2:=ih (m.set v 2) p.1 p.2 fl1 w P (by simp[hm]) h hP (by omega) hw0 (by omega);simp -implicitDefEqProofs -dsimp[j0,jm,hat1,nl1,hm,hv1,hst2,js];refine bJ i2 ?_;rintro _ _ ⟨rfl,fl2,rfl⟩;have n0:=o.at0 (f:=f) (g:=g) (ws:=ws) (es:=es) (lf:=P.1) (m:=m.set v 2) (c:=bcl fl2 P.2);have nm:=o.atm (f:=f) (g:=g) (ws:=ws) (es:=es) (lf:=P.1) (m:=m.set v 2) (c:=bcl fl2 P.2);have ns:=o.setm (f:=f) (g:=g) (ws:=ws) (es:=es) (lf:=P.1) (m:=m.set v 2) (c:=bcl fl2 P.2) m;simp -implicitDefEqProofs -dsimp[n0,nm,hat2,nl2,hm,hv1,hst3,ns];exact⟨fl2,[],by rw[List.append_nil]⟩
end
end
section
def shV:List Shr→V
 | []=>.nilS
 | x::l=>.lst 2 false (aQ x::l.map aQ)
def iJ(x:Nde):V:=.agg [.int .i64 x.v,shV x.l]
@[simp] theorem shV_pure (l:List Shr):AM.Pure (shV l):=by cases l<;>simp[shV]
theorem shV_one(l:List Shr):(shV l).one=true:=by cases l<;>rfl
@[simp] theorem encNp_pure (x:Nde):AM.Pure (iJ x):=by
 unfold iJ;simp[shV_one]
theorem encNp_ok(x:Nde):AM.Pure (iJ x)∧dc (iJ x)=true∧(iJ x).cells.length=2:=by
 refine⟨encNp_pure x,?_,rfl⟩;show([V.int .i64 x.v,shV x.l]:List V).all V.one=true;rw[List.all_cons,List.all_cons,shV_one];rfl
theorem kF(l:List Nde):∀x∈l.map iJ,AM.Pure x∧dc x=true∧x.cells.length=2:=fun x hx=>by
 obtain⟨y,_,rfl⟩:=List.mem_map.1 hx;exact encNp_ok y
def PR(l:List Nde)(r:V):Prop:=∃fl,r = .tup [.lst 2 fl (l.map iJ),.int .i64 0]
section
variable {H:List B} {k0 km kb:Nat} {f g:Bool} {ws:List Int} {es:List (List Nat)} {lf:Int} {m:List Nat} {c:B}
def QP(H:List B)(k0 km kb:Nat)(f g:Bool)(ws:List Int)(es:List (List Nat))(lf:Int)(m:List Nat)(c:B)(H':List B):Prop:=∃G,H'=HS H k0 km kb f g ws es lf m c++G
theorem prv_cut{k:FuncId}{args:List V}{H0:List B}{l:List Nde}(o:BOk H k0 km kb)(hc:rbB H.length c)(h0:H0.length≤H.length)(hq:az Tryz.prog k args H0 fun r H'=>PR l r∧QP H k0 km kb f g ws es lf m c H'):az Tryz.prog k args H0 fun r H'=>PR l r∧H'=HS H k0 km kb f g ws es lf m c:=by
 refine(mu (σ:=Bool) (ok:=fun _=>True) (rf:=fun x=>.tup [.lst 2 x (l.map iJ),.int .i64 0]) (Hf:=fun _=>HS H k0 km kb f g ws es lf m c) (hq.mono fun r H' ⟨⟨fl,h1⟩,G,h2⟩=>⟨fl,trivial,h1,G,h2⟩) (fun x _=>by rw[cW];exact h0) (fun x _=>?_) (fun x _=>o.rbs hc)).mono ?_
 ·intro y hy;simp only[List.mem_cons,List.not_mem_nil,or_false]at hy
  rcases hy with rfl | rfl
  ·intro z hz;exact(kF l z hz).1
  ·trivial
 ·rintro r H' ⟨x,_,h1,h2⟩;exact⟨⟨x,h1⟩,h2⟩
theorem lH{ws:List Int}{es:List (List Nat)}{P:List Nde×Int} : ∀(k:Nat) (m:List Nat) (lf b:Int),fG ws es k m lf b=some P→P.2≤lf
 | 0,_,_,_,h=>by simp[fG]at h
 | k+1,m,lf,b,h=>by
  rw[fG]at h;split at h
  ·cases h
  ·split at h
   ·cases h;simp only;omega
   ·split at h
    ·cases h;simp only;omega
    ·split at h
     ·cases h
     ·split at h
      ·cases h
      ·rename_i p hp;split at h
       ·cases h
       ·rename_i q hq;have h1:=lH (P:=p) k _ _ _ hp;have h2:=lH (P:=q) k _ _ _ hq;cases h;simp only;omega
theorem prove_h(o:BOk H k0 km kb)(hc:rbB H.length c)(hb:HsB ws es)(k:Nat):∀(m:List Nat) (lf b:Int) (P:List Nde×Int),m.length=ws.length→fG ws es k m lf b=some P→-9000000000000000000≤P.2→lf≤9000000000000000000→b≤4000000000000000000→-4000000000000000000+1000000*(k:Int)≤b→P.1.length≤1000000 →
  az Tryz.prog 108 [.ptr k0 0,.int .i64 b] (HS H k0 km kb f g ws es lf m c) fun r H'=>PR P.1 r∧H'=HS H k0 km kb f g ws es P.2 m c:=by
 induction k with
 | zero=>intro m lf b P hm h;simp[fG]at h
 | succ k ih =>
  intro m lf b P hm h hP hlf hb1 hb0 hPl;have hle:=lH _ _ _ _ h;rw[fG]at h
  have hnl:¬lf-1<0:=by
   intro hq;rw[if_pos hq]at h;cases h
  rw[if_neg hnl]at h;refine prv_cut o hc (by rw[cW];exact Nat.le_refl _) ?_;have s0:=o.sat (f:=f) (g:=g) (ws:=ws) (es:=es) (lf:=lf) (m:=m) hc hm;have s1:=o.sat (f:=f) (g:=g) (ws:=ws) (es:=es) (lf:=lf-1) (m:=m) hc hm;have c1:=spend_h s0 (by omega) hlf;rw[o.set0]at c1;rw[decide_eq_true (show 0≤lf-1 by omega)]at c1
  have hes:es.length≤1000000:=by have:=hb.ne;omega
  have hel:∀e∈es,e.length≤1000000:=fun e he=>by have:=hb.ed.len e he;have:=hb.n;omega
  have c2:=dead_h s1 hb.ed hes hel;have c3:=packing_h s1 hb;have c4:=branch_h s1 hb;obtain⟨_,p2,_,_,p5,p6⟩:=ie (m:=m) hb.ed es 0 ws (by simp) rfl (fun v hv _=>by have:=(hb.w v hv).1;omega);have g0:=s1.h0;have gm:=s1.hm;have hml:=aw m;obtain⟨D,hD⟩:∃D,D=fA m es:=⟨_,rfl⟩;rw[←hD]at c2 h
  change gX (eQ ws es m).1=(eQ ws es m).2 at p2
  obtain⟨S,hS⟩:∃S,S=eQ ws es m:=⟨_,rfl⟩;rw[←hS]at c3 h p2;have hbr:=mN hb.ed m;obtain⟨br,hbre⟩:∃br,br=brS es m:=⟨_,rfl⟩;rw[←hbre]at c4 h hbr;refine aD tok Tryz.func108 rfl rfl ?_;refine wx ?_;simp -implicitDefEqProofs -dsimp[Tryz.f108,List.replicate];refine bJ c1 ?_;rintro _ _ ⟨rfl,rfl⟩;by_cases hq0:b≤0
  ·rw[if_pos (.inl hq0)]at h;cases h;simp -implicitDefEqProofs -dsimp[hq0];exact⟨⟨true,rfl⟩,[],by rw[List.append_nil]⟩
  ·simp -implicitDefEqProofs -dsimp[hq0];refine bJ c2 ?_;rintro _ _ ⟨rfl,rfl⟩
   cases D with
   | true =>
    rw[if_pos (.inr rfl)]at h;cases h;simp -implicitDefEqProofs -dsimp[];exact⟨⟨true,rfl⟩,[],by rw[List.append_nil]⟩
   | false =>
    rw[if_neg (by rintro(h | h);exact hq0 h;cases h)]at h;simp -implicitDefEqProofs -dsimp[];refine bJ c3 ?_;rintro _ _ ⟨rfl,rfl⟩;by_cases hq:b≤S.2
    ·rw[if_pos hq]at h;cases h;obtain⟨S1,S2⟩:=S
     cases S1 with
     | nil=>simp only[gX]at p2 hq;omega
     | cons y ys =>
      simp -implicitDefEqProofs -dsimp[hq,LSh,aQ];exact⟨⟨true,by simp[iJ,shV,aQ]⟩,[],by rw[List.append_nil]⟩
    ·rw[if_neg hq]at h;simp -implicitDefEqProofs -dsimp[hq,LSh];refine bJ c4 ?_;rintro _ _ ⟨rfl,rfl⟩;by_cases hbn:br<0
     ·rw[if_pos hbn]at h;cases h
     rw[if_neg hbn]at h
     rcases hbr with⟨hbr,_⟩ | ⟨hv1,hv2,hv3⟩
     ·exact absurd hbr hbn
     obtain⟨v,rfl⟩:∃v:Nat,br=v:=⟨br.toNat,by omega⟩;rw[Int.toNat_natCast]at hv1 hv3 h;have hwl:=(ak ws 0 hv1).symm;have hwb:=hb.w v hv1;obtain⟨wv,hwv⟩:∃wv,wv=ws.getD v 0:=⟨_,rfl⟩;rw[←hwv]at hwl hwb h;have hww:IntKind.i64.wrap (b-wv)=b-wv:=wrap64 (by omega) (by omega)
     have hm0:m.set v 0=m:=by
      have:m[v]'(by omega)=0:=by rw[←ak m 0 (by omega)];exact hv3
      conv=>rhs;rw[←List.set_getElem_self (show v<m.length by omega)]
      rw[this]
     have hat:=fun h=>bO (m:=m) (x:=v) h
     rw[hv3]at hat
     have hat1:=fun h=>bO (m:=m.set v 1) (x:=v) h
     have hat2:=fun h=>bO (m:=m.set v 2) (x:=v) h
     have nl1:=aw (m.set v 1);have nl2:=aw (m.set v 2);rw[List.length_set]at nl1 nl2;have hst1:(nuL m).set v (.int .i64 1)=nuL (m.set v 1):=cR m v 1;have hst2:(nuL (m.set v 1)).set v (.int .i64 2)=nuL (m.set v 2):=(cR (m.set v 1) v 2).trans (by rw[List.set_set]);have hst3:(nuL (m.set v 2)).set v (.int .i64 0)=nuL m:=(cR (m.set v 2) v 0).trans (by rw[List.set_set,hm0]);have k1:=o.setm (f:=f) (g:=g) (ws:=ws) (es:=es) (lf:=lf-1) (m:=m) (c:=c) (m.set v 1);have k10:=o.at0 (f:=f) (g:=g) (ws:=ws) (es:=es) (lf:=lf-1) (m:=m.set v 1) (c:=c)
     cases hp:fG ws es k (m.set v 1) (lf-1) (b-wv) with
     | none=>rw[hp]at h;cases h
     | some p =>
      rw[hp]at h;simp only at h
      cases hp2:fG ws es k (m.set v 2) p.2 b with
      | none=>rw[hp2]at h;cases h
      | some q =>
       rw[hp2]at h;cases h;simp only[List.length_cons,List.length_append]at hPl;simp only at hP hle;have l1:=lH _ _ _ _ hp;have l2:=lH _ _ _ _ hp2;have i1:=ih (m.set v 1) (lf-1) (b-wv) p (by simp[hm]) hp (by omega) (by omega) (by omega) (by omega) (by omega);have i2:=ih (m.set v 2) p.2 b q (by simp[hm]) hp2 hP (by omega) hb1 (by omega) (by omega);simp -implicitDefEqProofs -dsimp[hbn,g0,gm,hat,hml,hm,hv1,hst1,k1,k10,hwl,hww,L1,ac];refine bJ i1 ?_;rintro _ _ ⟨⟨fl1,rfl⟩,rfl⟩;have j0:=o.at0 (f:=f) (g:=g) (ws:=ws) (es:=es) (lf:=p.2) (m:=m.set v 1) (c:=c);have jm:=o.atm (f:=f) (g:=g) (ws:=ws) (es:=es) (lf:=p.2) (m:=m.set v 1) (c:=c);have js:=o.setm (f:=f) (g:=g) (ws:=ws) (es:=es) (lf:=p.2) (m:=m.set v 1) (c:=c) (m.set v 2);simp -implicitDefEqProofs -dsimp[j0,jm,hat1,nl1,hm,hv1,hst2,js];refine bJ i2 ?_;rintro _ _ ⟨⟨fl2,rfl⟩,rfl⟩;have n0:=o.at0 (f:=f) (g:=g) (ws:=ws) (es:=es) (lf:=q.2) (m:=m.set v 2) (c:=c);have nm:=o.atm (f:=f) (g:=g) (ws:=ws) (es:=es) (lf:=q.2) (m:=m.set v 2) (c:=c);have ns:=o.setm (f:=f) (g:=g) (ws:=ws) (es:=es) (lf:=q.2) (m:=m.set v 2) (c:=c) m
       have cc:=concat_N [⟨true,[.agg [.int .i64 (v:Int),.nilS]]⟩,⟨fl1,p.1.map iJ⟩,⟨fl2,q.1.map iJ⟩] true (fun l hl=>by
        simp only[List.mem_cons,List.not_mem_nil,or_false]at hl
        rcases hl with rfl | rfl | rfl
        ·exact kF [⟨(v:Int),[]⟩]
        ·exact kF p.1
        ·exact kF q.1) (by simp) (by simp[cZ];omega)
       simp only[List.map_cons,List.map_nil,dK]at cc;simp -implicitDefEqProofs -dsimp[n0,nm,hat2,nl2,hm,hv1,hst3,ns];refine(aG cc (by simp)).mono ?_;rintro r H' ⟨rfl,rfl⟩;simp -implicitDefEqProofs -dsimp[];exact⟨⟨false,by simp[cZ,iJ,shV]⟩,[],by rw[List.append_nil]⟩
end
end
theorem og{s:AM.St}{z:Nat}{xs ys:List V}{fl:Bool}{u:Value}(h:Rel s (.lst z fl xs) u)(hl:xs.length=ys.length)(hz:∀y∈ys,y.cells.length=z∧∀c∈y.cells,c.one=true)
  (hle:∀(i:Nat) x y,xs[i]?=some x→ys[i]?=some y→∀(j:Nat) c,y.cells[j]?=some c→∃d,x.cells[j]?=some d∧lfB d c):Rel s (.lst z fl ys) u:=by
 cases h with
 | lst _ _ _ A cap b off u hcap hfull hA hz0 hcell hrel =>
  rw[hl];refine .lst z fl ys A cap b off u (by omega) (fun h=>by rw[←hl];exact hfull h) (fun h=>hA (by omega)) hz (fun i y j c hy hc=>?_) (fun i y j c hy hc=>?_)
  ·have hx:xs[i]?=some (xs[i]'(by have:=aE hy;omega)):=List.getElem?_eq_getElem _;obtain⟨d,hd,_⟩:=hle i _ y hx hy j c hc;exact hcell i _ j d hx hd
  ·have hx:xs[i]?=some (xs[i]'(by have:=aE hy;omega)):=List.getElem?_eq_getElem _;obtain⟨d,hd,h2⟩:=hle i _ y hx hy j c hc;exact me (hrel i _ j d hx hd) h2
theorem iN{P:Program}{f:FuncId}{args:List V}{K K':V→Prop}(h:aS P f args K)(hk:∀s u r,K r→Rel s r u→∃r',Rel s r' u∧AM.Pure r'∧K' r'):aS P f args K':=by
 refine⟨h.1,fun F w vals hZ hF hsz hrel=>(h.2 F w vals hZ hF hsz hrel).mono fun e w' ⟨u,r,a1,a2,a3,a4,a5⟩=>?_⟩;obtain⟨r',b1,b2,b3⟩:=hk _ u r a5 a3;exact⟨u,r',a1,b2,b1,a4,b3⟩
theorem shV_lf(l:List Shr):lfB (shV l) (LSh false l):=by
 cases l with
 | nil=>exact .inr (.inr ⟨2,rfl,rfl⟩)
 | cons x l=>exact .inl rfl
theorem rel_nodes{s:AM.St}{fl:Bool}{l:List Nde}{u:Value}(h:Rel s (.lst 2 fl (l.map iJ)) u):Rel s (LNd fl l) u:=by
 refine og h (by simp) (fun y hy=>?_) (fun i x y hx hy j c hc=>?_)
 ·obtain⟨z,_,rfl⟩:=List.mem_map.1 hy;refine⟨rfl,fun c hc=>?_⟩;simp only[aT,V.cells,List.mem_cons,List.not_mem_nil,or_false]at hc
  rcases hc with rfl | rfl<;>rfl
 ·rw[List.getElem?_map]at hx hy
  cases hz:l[i]? with
  | none=>rw[hz]at hx;cases hx
  | some z =>
   rw[hz]at hx hy;simp only[Option.map_some,Option.some.injEq]at hx hy;subst hx;subst hy
   match j with
   | 0=>simp[aT,V.cells]at hc;subst hc;exact⟨_,rfl,.inl rfl⟩
   | 1=>simp[aT,V.cells]at hc;subst hc;exact⟨_,rfl,shV_lf z.l⟩
   | j+2=>simp[aT,V.cells]at hc
def PN(l:List Nde)(r:V):Prop:=∃fl,r = .tup [LNd fl l,.int .i64 0]
theorem prove_u{ws:List Int}{es:List (List Nat)}(hb:HsB ws es)(f g:Bool)(b lf:Int)(P:List Nde×Int)(h:fG ws es (ws.length+1) (List.replicate ws.length 0) lf b=some P)(h1:1≤lf)(h2:lf≤9000000000000000000)(h3 : -1000000000000000≤b)(h4:b≤1000000000000000)(hP : -9000000000000000000≤P.2)(hl:P.1.length≤1000000):
  aS Tryz.prog 65 [ah f g ws es,.int .i64 b,.int .i64 lf] (PN P.1):=by
 refine iN (K:=PR P.1) ?_ (fun s u r ⟨fl,hr⟩ hrel=>?_)
 ·have hel:∀e∈es,e.length≤1000000:=fun e he=>by have:=hb.ed.len e he;have:=hb.n;omega
  have cv:=lW ws es f g hel;rw[eT.2 hb]at cv
  have hr0:∀bl∈[B.cells [L1 f ws,LLn g es]],rbB [B.cells [L1 f ws,LLn g es]].length bl:=by
   intro bl hb;simp at hb;subst hb;intro c hc;simp at hc;rcases hc with rfl | rfl<;>exact cG (by simp) rfl
  have c1:=jQ [B.cells [L1 f ws,LLn g es]] f g ws es lf hb.n;have sa:=nsH_at hr0 f g ws es lf;have o:BOk (nsH [B.cells [L1 f ws,LLn g es]] f g ws es lf) 3 2 0:=⟨by simp[nsH],by simp[nsH],by simp[nsH],by omega,by omega,by omega,sa.rb⟩;have c2:=prove_h (c:=B.cells [L1 f ws,LLn g es]) (f:=f) (g:=g) o (rbBM (by simp[nsH]) (hr0 _ (by simp))) hb (ws.length+1) (List.replicate ws.length 0) lf b P (by simp) h hP h2 (by omega) (by have:=hb.n;omega) hl;have hH:HS (nsH [B.cells [L1 f ws,LLn g es]] f g ws es lf) 3 2 0 f g ws es lf (List.replicate ws.length 0) (B.cells [L1 f ws,LLn g es])=nsH [B.cells [L1 f ws,LLn g es]] f g ws es lf:=rfl;rw[hH]at c2;simp only[ah]at cv c1;refine aC (aD tok Tryz.func65 rfl rfl ?_);refine wx ?_;simp -implicitDefEqProofs -dsimp[Tryz.f65,List.replicate,ah];refine(aG (cv) (by simp)).mono ?_;rintro r H' ⟨rfl,rfl⟩;simp -implicitDefEqProofs -dsimp[show ¬lf<1 by omega,show ¬b < -1000000000000000 by omega,show ¬1000000000000000<b by omega];refine bJ c1 ?_;rintro _ _ ⟨rfl,rfl⟩;simp -implicitDefEqProofs -dsimp[];refine bJ c2 ?_;rintro _ _ ⟨⟨fl,rfl⟩,rfl⟩;simp -implicitDefEqProofs -dsimp[];exact⟨fl,rfl⟩
 ·subst hr;refine⟨.tup [LNd fl P.1,.int .i64 0],?_,by simp,fl,rfl⟩
  cases hrel with
  | tup _ us hs h =>
   refine .tup _ us hs (fun i c u hc hu=>?_)
   match i with
   | 0=>simp at hc;subst hc;exact rel_nodes (h 0 _ u rfl hu)
   | 1=>simp at hc;subst hc;exact h 1 _ u rfl hu
   | i+2=>simp at hc
end
end Go.Proofs.YteijbpppalhihaaGreat
namespace Go.Proofs.YteijbpppalhihaaGreat
section
open Go Go.AM Go.RowKit
def ext:bD:=fun f args H=>match f,args with
 | 174,[.str a,.str b]=>some (.int .i64 (mv a b),H)
 | 137,[.nilS,.int .i64 n]=>if n=0 then some (.nilS,H) else if 0≤n∧n≤1000000 then some (.buf H.length 0 0 0,H++[.buf 49 2 [] false]) else none
 | _,_=>none
theorem ao:aq Tryz.prog ext:=fun f args H r H' h=>by
 unfold ext at h;split at h
 ·cases h;rename_i a b;have:=aG (H:=H) (cmp_con a b) (by simp);simpa only[aV,List.append_nil] using this
 ·rename_i n;split at h
  ·rename_i h0;subst h0;cases h;have:=aG (H:=H) grow_nil_C (by simp);simpa only[aV,List.append_nil] using this
  split at h
  ·rename_i hc;cases h;have:=ep (H:=H) (kg n.toNat (by omega)) (by simp);rw[Int.toNat_of_nonneg hc.1]at this
   have h2:=aV.mono this (K':=fun x y=>x = .buf H.length 0 0 0∧y=H++[.buf 49 2 [] false]) (by
    rintro r H' ⟨e,z,xs,rfl,rfl,_,rfl,rfl,rfl⟩
    exact⟨rfl,rfl⟩)
   simpa only[aV,List.append_nil] using h2
  ·cases h
 ·cases h
theorem allNamed:(Tryz.prog.funcs.toList.all fun fn=>!(fn.name == "runtime.NumGoroutine"))=true:=by kernel_rfl
theorem al:∀(f:Nat) (fn:Func),Tryz.prog.funcs[f]?=some fn→(fn.name == "runtime.NumGoroutine")=false:=fun f fn h=>by
 have:=List.all_eq_true.1 allNamed fn (by rw[Array.mem_toList_iff];exact Array.mem_of_getElem? h);simpa using this
def buf1(H:List B):List V→List V→Option (Nat×Nat×Nat×List V)
 | a::as',b::bs=>if eqV 40 a b=true then buf1 H as' bs else match a with
  | .buf k 0 n m=>match H[k]? with
   | some (.buf e z xs _)=>if n=xs.length∧m=xs.length∧eqV 40 (.lst z false xs) b=true∧eqL (eqV 40) as' bs=true then some (k,e,z,xs) else none
   | _=>none
  | _=>none
 | _,_=>none
theorem repF_refl(p q:V):∀xs:List V,ni p q xs xs
 | []=>trivial
 | _::xs=>⟨.inl rfl,repF_refl p q xs⟩
theorem buf1_ok{H:List B} : ∀{args ga:List V} {k e z:Nat} {xs:List V},buf1 H args ga=some (k,e,z,xs)→(∃fz,H[k]?=some (.buf e z xs fz))∧ni (.buf k 0 xs.length xs.length) (.lst z false xs) args ga
 | [],_,_,_,_,_,h=>by simp[buf1]at h
 | _::_,[],_,_,_,_,h=>by simp[buf1]at h
 | a::as',b::bs,k,e,z,xs,h=>by
  unfold buf1 at h;split at h
  ·rename_i he;obtain⟨h1,h2⟩:=buf1_ok h;exact⟨h1,.inl (eJ _ _ _ he).symm,h2⟩
  ·split at h
   ·rename_i k' n m;split at h
    ·rename_i e' z' xs' fz hk;split at h
     ·rename_i hc;obtain⟨rfl,rfl,h3,h4⟩:=hc;cases h;refine⟨⟨fz,hk⟩,.inr ⟨rfl,(eJ _ _ _ h3).symm⟩,?_⟩;rw[ew (eJ 40) h4];exact repF_refl _ _ _
     ·cases h
    ·cases h
   ·cases h
def ir(g:FuncId)(ga:List V)(gr:V)(ext:bD):bD:=fun f args H=>if Nat.beq f g then(if eqL (eqV 40) args ga then some (gr,H) else match buf1 H args ga with
 | some _=>some (gr,H)
 | none=>ext f args H) else ext f args H
def lj(g:FuncId)(ga:List V)(gr:V)(ext:bD):bD:=fun f args H=>if Nat.beq f g then(if eqL (eqV 40) args ga then some (gr,H) else match buf1 H args ga with
 | some (k,e,z,xs)=>some (gr,H.set k (.buf e z xs true))
 | none=>ext f args H) else ext f args H
theorem pure_of_lst{z:Nat}{f:Bool}{xs:List V}(h:AM.Pure (.lst z f xs)):∀x∈xs,AM.Pure x:=by cases h;assumption
theorem bt{ext:bD}(he:aq Tryz.prog ext){g:FuncId}{ga:List V}{gr:V}(hc:aS Tryz.prog g ga fun x=>x=gr)(hq:∀a∈ga,AM.Pure a)(hs:Scalar gr):aq Tryz.prog (ir g ga gr ext):=fun f args H r H' h=>by
 unfold ir at h;split at h
 ·rename_i hf;have hfg:f=g:=Nat.eq_of_beq_eq_true hf;subst hfg;split at h
  ·rename_i ha;have ha:=ew (eJ 40) ha;cases h;subst ha;have:=aG (H:=H) hc hq;simpa only[aV,List.append_nil] using this
  ·split at h
   ·rename_i o ho;obtain⟨k,e,z,xs⟩:=o;cases h;obtain⟨⟨fz,hk⟩,hr⟩:=buf1_ok ho
    have:=callX (H:=H) (args:=args) hc hr.len (fun i a a' h1 h2=>by
     have hp:=hq a' (List.mem_of_getElem? h2)
     rcases hr.at_ i a a' h1 h2 with rfl | ⟨rfl,rfl⟩
     ·exact .pure _ hp
     ·exact dr hk rfl (pure_of_lst hp)) hs
    simpa only[aV,List.append_nil] using this
   ·exact he f args H r H' h
 ·exact he f args H r H' h
theorem dq{ext:bD}(he:aq Tryz.prog ext){g:FuncId}{ga:List V}{gr:V}(hc:aS Tryz.prog g ga fun x=>x=gr)(hq:∀a∈ga,AM.Pure a):aq Tryz.prog (lj g ga gr ext):=fun f args H r H' h=>by
 unfold lj at h;split at h
 ·rename_i hf;have hfg:f=g:=Nat.eq_of_beq_eq_true hf;subst hfg;split at h
  ·rename_i ha;have ha:=ew (eJ 40) ha;cases h;subst ha;have:=aG (H:=H) hc hq;simpa only[aV,List.append_nil] using this
  ·split at h
   ·rename_i k e z xs ho;cases h;obtain⟨⟨fz,hk⟩,hr⟩:=buf1_ok ho;have:=callF (H:=H) (args:=args) k hk hc hr hq;simpa only[aV,List.append_nil] using this
   ·exact he f args H r H' h
 ·exact he f args H r H' h
end
end Go.Proofs.YteijbpppalhihaaGreat
namespace Go.Proofs.YteijbpppalhihaaGreat
section
open Go Go.AM
section
def swp(j:Nat)(l:List Nat):List Nat:=(l.set (j+1) (l.getD j 0)).set j (l.getD (j+1) 0)
def gO(lt:Nat→Nat→Bool):Nat→List Nat→List Nat
 | 0,l=>l
 | j+1,l=>if lt (l.getD (j+1) 0) (l.getD j 0)=true then gO lt j (swp j l) else l
def isF(lt:Nat→Nat→Bool):Nat→Nat→List Nat→List Nat
 | 0,_,l=>l
 | r+1,i,l=>isF lt r (i+1) (gO lt i l)
theorem swp_len(j:Nat)(l:List Nat):(swp j l).length=l.length:=by simp[swp]
theorem swp_perm(j:Nat)(l:List Nat)(h:j+1<l.length):(swp j l).Perm l:=by
 unfold swp;rw[ak l 0 h,ak l 0 (show j<l.length by omega)];exact List.set_set_perm h (by omega)
theorem iY(lt:Nat→Nat→Bool):∀(j:Nat) (l:List Nat),j<l.length→(gO lt j l).Perm l
 | 0,l,_=>.refl _
 | j+1,l,h=>by
  rw[gO];split
  ·exact(iY lt j (swp j l) (by rw[swp_len];omega)).trans (swp_perm j l h)
  ·exact .refl _
theorem jR(lt:Nat→Nat→Bool):∀(r i:Nat) (l:List Nat),i+r≤l.length→(isF lt r i l).Perm l
 | 0,_,l,_=>.refl _
 | r+1,i,l,h=>by
  rw[isF];have h1:=iY lt i l (by omega);exact(jR lt r (i+1) _ (by rw[h1.length_eq];omega)).trans h1
def insB(x:Nat):List Nat→List Nat
 | []=>[x]
 | y::rp=>if x<y then insB x rp++[y] else rp.reverse++[y,x]
def ltN(a b:Nat):Bool:=decide (a<b)
theorem sink_ins(x:Nat):∀(rp post:List Nat),gO ltN rp.length (rp.reverse++x::post)=insB x rp++post
 | [],post=>rfl
 | y::rp,post=>by
  have e:(y::rp).reverse++x::post=rp.reverse++y::x::post:=by simp
  rw[e,List.length_cons,gO,insB]
  have g1:(rp.reverse++y::x::post).getD (rp.length+1) 0=x:=by
   simp[List.getD,List.getElem?_append_right]
  have g2:(rp.reverse++y::x::post).getD rp.length 0=y:=by
   simp[List.getD,List.getElem?_append_right]
  have g3:swp rp.length (rp.reverse++y::x::post)=rp.reverse++x::y::post:=by
   unfold swp;rw[g1,g2,List.set_append_right _ _ (by simp),List.set_append_right _ _ (by simp)];simp
  rw[g1,g2,g3];by_cases h:x<y
  ·rw[if_pos (by simp[ltN,h]),if_pos h,sink_ins x rp (y::post)];simp
  ·rw[if_neg (by simp[ltN,h]),if_neg h];simp
theorem insB_mem(x:Nat):∀(rp:List Nat) (z:Nat),z∈insB x rp↔z=x∨z∈rp
 | [],z=>by simp[insB]
 | y::rp,z=>by
  rw[insB];split
  ·rw[List.mem_append,List.mem_singleton,List.mem_cons,insB_mem x rp z];constructor
   ·rintro((h | h) | h)
    ·exact .inl h
    ·exact .inr (.inr h)
    ·exact .inr (.inl h)
   ·rintro(h | h | h)
    ·exact .inl (.inl h)
    ·exact .inr h
    ·exact .inl (.inr h)
  ·simp only[List.mem_append,List.mem_reverse,List.mem_cons,List.not_mem_nil,or_false];constructor
   ·rintro(h | h | h)<;>simp[h]
   ·rintro(h | h | h)<;>simp[h]
theorem nP(x:Nat):∀rp:List Nat,rp.reverse.Pairwise (·≤·)→(insB x rp).Pairwise (·≤·)
 | [],_=>by simp[insB]
 | y::rp,h=>by
  rw[List.reverse_cons,List.pairwise_append]at h;obtain⟨h1,_,h3⟩:=h;rw[insB];split
  ·rename_i hx;rw[List.pairwise_append];refine⟨nP x rp h1,by simp,fun a ha b hb=>?_⟩;rw[List.mem_singleton]at hb;subst hb
   rcases(insB_mem x rp a).1 ha with rfl | ha
   ·omega
   ·exact h3 a (by simpa using ha) b (by simp)
  ·rename_i hx;rw[List.pairwise_append];refine⟨h1,by simp;omega,fun a ha b hb=>?_⟩;have:=h3 a ha y (by simp);simp at hb
   rcases hb with rfl | rfl<;>omega
theorem pO:∀(r i:Nat) (l:List Nat),i+r=l.length→(l.take i).Pairwise (·≤·)→(isF ltN r i l).Pairwise (·≤·)
 | 0,i,l,h,hs=>by
  rw[isF]
  rwa [List.take_of_length_le (by omega)]at hs
 | r+1,i,l,h,hs=>by
  rw[isF]
  have hi:i<l.length:=by omega
  have e:l=(l.take i).reverse.reverse++l[i]::l.drop (i+1):=by
   rw[List.reverse_reverse,←List.drop_eq_getElem_cons hi,List.take_append_drop]
  have hl:(l.take i).reverse.length=i:=by simp;omega
  have hk:=sink_ins l[i] (l.take i).reverse (l.drop (i+1));rw[hl,←e]at hk
  have hin:(insB l[i] (l.take i).reverse).length=i+1:=by
   have h1:=(iY ltN i l hi).length_eq;rw[hk,List.length_append,List.length_drop]at h1;omega
  refine pO r (i+1) _ (by rw[(iY ltN i l hi).length_eq];omega) ?_;rw[hk,List.take_left' hin];exact nP _ _ (by rwa [List.reverse_reverse])
section
variable {H:List B} {k:Nat}
def SL(H:List B)(k:Nat)(l:List Nat):List B:=H.set k (.buf 3 1 (nuL l) false)
theorem SL_at{H:List B}{k:Nat}(h:k<H.length)(l:List Nat):(SL H k l)[k]?=some (.buf 3 1 (nuL l) false):=by
 unfold SL;rw[List.getElem?_set_self h]
theorem SL_set(H:List B)(k:Nat)(l l':List Nat):(SL H k l).set k (.buf 3 1 (nuL l') false)=SL H k l':=by
 unfold SL;rw[List.set_set]
theorem gp(H:List B)(k:Nat)(l:List Nat):(SL H k l).length=H.length:=by simp[SL]
theorem SL_rb{H:List B}(hH:∀bl∈H,rbB H.length bl)(k:Nat)(l:List Nat):∀bl∈SL H k l,rbB (SL H k l).length bl:=fF hH ((rbB_buf1 (cY l)).2 trivial)
theorem nan_I(x:Int):aS Tryz.prog 170 [.int .i64 x] fun r=>r = .bool false:=by
 refine aC (aD tok Tryz.func170 rfl rfl ?_);refine wx ?_;simp -implicitDefEqProofs -dsimp[Tryz.f170,List.replicate]
theorem less_I(a b:Nat):aS Tryz.prog 211 [.int .i64 (a:Int),.int .i64 (b:Int)] fun r=>r = .bool (ltN a b):=by
 unfold ltN;by_cases h:a<b
 ·rw[decide_eq_true h];refine aC (aD tok Tryz.func211 rfl rfl ?_);refine wx ?_;simp -implicitDefEqProofs -dsimp[Tryz.f211,List.replicate];refine(aG (nan_I a) (by simp)).mono ?_;rintro r H' ⟨rfl,rfl⟩;simp -implicitDefEqProofs -dsimp[h]
 ·rw[decide_eq_false h];refine aC (aD tok Tryz.func211 rfl rfl ?_);refine wx ?_;simp -implicitDefEqProofs -dsimp[Tryz.f211,List.replicate];refine(aG (nan_I a) (by simp)).mono ?_;rintro r H' ⟨rfl,rfl⟩;simp -implicitDefEqProofs -dsimp[h]
theorem insOrd_h(hk:k<H.length)(hH:∀bl∈H,rbB H.length bl)(l:List Nat)(n:Nat)(hn:l.length=n)(hn2:n≤1000000):
  az Tryz.prog 205 [.buf k 0 n n,.int .i64 0,.int .i64 n] (SL H k l) fun _ H'=>H'=SL H k (isF ltN (n-1) 1 l):=by
 obtain⟨S,hS⟩:∃S,S=isF ltN (n-1) 1 l:=⟨_,rfl⟩;rw[←hS];have w1:IntKind.i64.wrap (1:Int)=1:=wrap64 (by omega) (by omega);refine aD tok Tryz.func205 rfl rfl ?_;refine wx ?_;simp -implicitDefEqProofs -dsimp[Tryz.f205,List.replicate,w1];refine aK (W_loopM 49 [6,7,10,11,12,13,14,15,16,17,18,19,20,21,22,23,24,25,26,27,28,29,30,31,32,33,34,35,36,37,38,39,40,41,42,43,44,45,46,47,48] (by simp[mB]<;>rfl) (σ:=Nat×List Nat) (fun p=>1≤p.1∧p.1≤n+1∧p.2.length=n∧isF ltN (n-p.1) p.1 p.2=S) (fun p=>n+1-p.1) (fun p=>[(6,.int .i64 p.1)]) (fun p=>SL H k p.2) (1,l) ⟨by simp,by simp,hn,hS.symm⟩ (by simp) (by simp) (by simp[gp]) ?_);rintro⟨i,l1⟩ ⟨hi,hi2,hl1,hx⟩ N Q hN hQ;simp only at hi hi2 hl1 hx hN;by_cases hb:i<n
 ·rw[show n-i=(n-(i+1))+1 by omega,isF]at hx;refine wx ?_;simp -implicitDefEqProofs -dsimp[hb];refine aK (W_loopM 49 [7,16,17,18,19,20,21,22,23,24,25,26,27,28,29,30,31,32,33,34,35,36,37,38,39,40,41,42,43,44,45,46,47,48] (by simp[mB]<;>rfl) (σ:=Nat×List Nat) (fun p=>p.1≤i∧p.2.length=n∧gO ltN p.1 p.2=gO ltN i l1) (fun p=>p.1) (fun p=>[(7,.int .i64 p.1)]) (fun p=>SL H k p.2) (i,l1) ⟨by simp,hl1,rfl⟩ (by simp) (by simp) (by simp[gp]) ?_);rintro⟨j,l2⟩ ⟨hj,hl2,hy⟩ N2 Q2 hN2 hQ2;simp only at hj hl2 hy hN2;have g9:=SL_at hk l2;have hnl:=aw l2
  cases j with
  | zero =>
   rw[gO]at hy;refine wx ?_;simp -implicitDefEqProofs -dsimp[];refine .inr ⟨aJ (by kernel_rfl),?_⟩;refine hQ2 _ _ _ ?_;simp -implicitDefEqProofs -dsimp[aM i (by omega)];refine hN (i+1,l2) _ _ ⟨by simp only;omega,by simp only;omega,hl2,by rw[hy];exact hx⟩ (by simp only;omega) (by simp) ⟨[],by simp⟩ (by simp[gp];exact hk) (SL_rb hH k l2)
  | succ j =>
   rw[gO]at hy
   have a1:=fun h=>bO (m:=l2) (x:=j+1) h
   have a0:=fun h=>bO (m:=l2) (x:=j) h
   have wj:IntKind.i64.wrap (((j:Int)+1)-1)=(j:Int):=by rw[wrap64 (by omega) (by omega)];omega
   have wj2:IntKind.i64.wrap (j:Int)=(j:Int):=dS j (by omega)
   have hj1:j+1<n:=by omega
   have hj0:j<n:=by omega
   obtain⟨x,hxx⟩:∃x,x=l2.getD (j+1) 0:=⟨_,rfl⟩;obtain⟨y,hyy⟩:∃y,y=l2.getD j 0:=⟨_,rfl⟩;rw[←hxx,←hyy]at hy;rw[←hxx]at a1;rw[←hyy]at a0;have cl:=less_I x y
   cases hq:ltN x y with
   | true =>
    rw[hq]at cl;rw[if_pos hq]at hy;refine wx ?_;simp -implicitDefEqProofs -dsimp[g9,hnl,hl2,hj1,hj0,a1,a0,wj,wj2,show(0:Int)≤(j:Int)+1 by omega,show(j:Int)+1<(n:Int) by omega];refine .inr ⟨aJ (by kernel_rfl),?_⟩;refine aj _ (aG (cl) (by simp)) ?_;simp -implicitDefEqProofs -dsimp[]
    have hsw:swp j l2=(l2.set (j+1) y).set j x:=by unfold swp;rw[←hxx,←hyy]
    have hst1:(nuL l2).set (j+1) (.int .i64 (y:Int))=nuL (l2.set (j+1) y):=cR l2 (j+1) y
    have hst2:(nuL (l2.set (j+1) y)).set j (.int .i64 (x:Int))=nuL (swp j l2):=by rw[hsw];exact cR _ j x
    have q9:=SL_at hk (l2.set (j+1) y);have qs1:=SL_set H k l2 (l2.set (j+1) y);have qs2:=SL_set H k (l2.set (j+1) y) (swp j l2);have qnl:=aw (l2.set (j+1) y);rw[List.length_set]at qnl
    have b0:=fun h=>bO (m:=l2.set (j+1) y) (x:=j) h
    refine aK (ai tok mixed [15,17] [(2,[1]),(3,[1]),(4,[1])] [] (by kernel_rfl) fun C K hC hK=>?_);simp -implicitDefEqProofs [g9,hnl,hl2,hj1,hj0,a1,a0,wj,wj2,hst1,hst2,q9,qs1,qs2,qnl,b0,show(0:Int)≤(j:Int)+1 by omega,show(j:Int)+1<(n:Int) by omega];refine hK _ _ ?_;simp -implicitDefEqProofs -dsimp[wj,wj2];refine hN2 (j,swp j l2) _ _ ⟨by simp only;omega,by rw[swp_len];exact hl2,hy⟩ (by simp only;omega) (by simp) ⟨[],by simp⟩ (by simp[gp];exact hk) (SL_rb hH k _)
   | false =>
    rw[hq]at cl;rw[if_neg (by rw[hq];simp)]at hy;refine wx ?_;simp -implicitDefEqProofs -dsimp[g9,hnl,hl2,hj1,hj0,a1,a0,wj,wj2,show(0:Int)≤(j:Int)+1 by omega,show(j:Int)+1<(n:Int) by omega];refine .inr ⟨aJ (by kernel_rfl),?_⟩;refine aj _ (aG (cl) (by simp)) ?_;simp -implicitDefEqProofs -dsimp[];refine hQ2 _ _ _ ?_;simp -implicitDefEqProofs -dsimp[aM i (by omega)];refine hN (i+1,l2) _ _ ⟨by simp only;omega,by simp only;omega,hl2,by rw[hy];exact hx⟩ (by simp only;omega) (by simp) ⟨[],by simp⟩ (by simp[gp];exact hk) (SL_rb hH k l2)
 ·rw[show n-i=0 by omega,isF]at hx;subst hx;refine wx ?_;simp -implicitDefEqProofs -dsimp[hb];refine hQ _ _ _ ?_;simp -implicitDefEqProofs -dsimp[]
end
end
section
def nb(cf:Nat→Nat→Int)(a b:Nat):Bool:=decide (cf a b<0)
section
variable {H:List B} {k:Nat}
theorem insCmp_h(hk:k<H.length)(hH:∀bl∈H,rbB H.length bl)(l:List Nat)(n:Nat)(hn:l.length=n)(hn2:n≤1000000)(fv:V)(hfv:rb H.length fv)(cf:Nat→Nat→Int)(hp:∀a b,a∈l→b∈l→∀l',aV Tryz.prog fv [.int .i64 (a:Int),.int .i64 (b:Int)] (SL H k l') fun r H'=>r = .int .i64 (cf a b)∧H'=SL H k l'):
  az Tryz.prog 203 [.buf k 0 n n,.int .i64 0,.int .i64 n,fv] (SL H k l) fun _ H'=>H'=SL H k (isF (nb cf) (n-1) 1 l):=by
 obtain⟨S,hS⟩:∃S,S=isF (nb cf) (n-1) 1 l:=⟨_,rfl⟩;rw[←hS];have w1:IntKind.i64.wrap (1:Int)=1:=wrap64 (by omega) (by omega);refine aD tok Tryz.func203 rfl rfl ?_;refine wx ?_;simp -implicitDefEqProofs -dsimp[Tryz.f203,List.replicate,w1];refine aK (W_loopM 53 [8,9,12,13,14,15,16,17,18,19,20,21,22,23,24,25,26,27,28,29,30,31,32,33,34,35,36,37,38,39,40,41,42,43,44,45,46,47,48,49,50,51,52] (by simp[mB]<;>rfl) (σ:=Nat×List Nat) (fun p=>1≤p.1∧p.1≤n+1∧p.2.length=n∧p.2.Perm l∧isF (nb cf) (n-p.1) p.1 p.2=S) (fun p=>n+1-p.1) (fun p=>[(8,.int .i64 p.1)]) (fun p=>SL H k p.2) (1,l) ⟨by simp,by simp,hn,.refl _,hS.symm⟩ (by simp) (by simp) (by simp[gp]) ?_);rintro⟨i,l1⟩ ⟨hi,hi2,hl1,hpm,hx⟩ N Q hN hQ;simp only at hi hi2 hl1 hpm hx hN;by_cases hb:i<n
 ·rw[show n-i=(n-(i+1))+1 by omega,isF]at hx;refine wx ?_;simp -implicitDefEqProofs -dsimp[hb];refine aK (W_loopM 53 [9,18,19,20,21,22,23,24,25,26,27,28,29,30,31,32,33,34,35,36,37,38,39,40,41,42,43,44,45,46,47,48,49,50,51,52] (by simp[mB]<;>rfl) (σ:=Nat×List Nat) (fun p=>p.1≤i∧p.2.length=n∧p.2.Perm l∧gO (nb cf) p.1 p.2=gO (nb cf) i l1) (fun p=>p.1) (fun p=>[(9,.int .i64 p.1)]) (fun p=>SL H k p.2) (i,l1) ⟨by simp,hl1,hpm,rfl⟩ (by simp) (by simp) (by simp[gp]) ?_);rintro⟨j,l2⟩ ⟨hj,hl2,hpm2,hy⟩ N2 Q2 hN2 hQ2;simp only at hj hl2 hpm2 hy hN2;have g9:=SL_at hk l2;have hnl:=aw l2
  cases j with
  | zero =>
   rw[gO]at hy;refine wx ?_;simp -implicitDefEqProofs -dsimp[];refine .inr ⟨aJ (by kernel_rfl),?_⟩;refine hQ2 _ _ _ ?_;simp -implicitDefEqProofs -dsimp[aM i (by omega)];refine hN (i+1,l2) _ _ ⟨by simp only;omega,by simp only;omega,hl2,hpm2,by rw[hy];exact hx⟩ (by simp only;omega) (by simp) ⟨[],by simp⟩ (by simp[gp];exact⟨hk,hfv⟩) (SL_rb hH k l2)
  | succ j =>
   rw[gO]at hy
   have a1:=fun h=>bO (m:=l2) (x:=j+1) h
   have a0:=fun h=>bO (m:=l2) (x:=j) h
   have wj:IntKind.i64.wrap (((j:Int)+1)-1)=(j:Int):=by rw[wrap64 (by omega) (by omega)];omega
   have wj2:IntKind.i64.wrap (j:Int)=(j:Int):=dS j (by omega)
   have hj1:j+1<n:=by omega
   have hj0:j<n:=by omega
   obtain⟨x,hxx⟩:∃x,x=l2.getD (j+1) 0:=⟨_,rfl⟩;obtain⟨y,hyy⟩:∃y,y=l2.getD j 0:=⟨_,rfl⟩;rw[←hxx,←hyy]at hy;rw[←hxx]at a1;rw[←hyy]at a0;have hmx:x∈l:=hpm2.mem_iff.1 (by rw[hxx,ak l2 0 (by omega)];exact List.getElem_mem _);have hmy:y∈l:=hpm2.mem_iff.1 (by rw[hyy,ak l2 0 (by omega)];exact List.getElem_mem _);have cl:=hp x y hmx hmy l2;obtain⟨z,hz⟩:∃z,z=cf x y:=⟨_,rfl⟩;rw[←hz]at cl
   have hzq:nb cf x y=decide (z<0):=by rw[hz];rfl
   cases hq:nb cf x y with
   | true =>
    rw[if_pos hq]at hy;rw[hzq]at hq;have hz0:=of_decide_eq_true hq;refine wx ?_;simp -implicitDefEqProofs -dsimp[g9,hnl,hl2,hj1,hj0,a1,a0,wj,wj2,show(0:Int)≤(j:Int)+1 by omega,show(j:Int)+1<(n:Int) by omega];refine .inr ⟨aJ (by kernel_rfl),?_⟩;refine aj _ cl ?_;simp -implicitDefEqProofs -dsimp[hz0]
    have hsw:swp j l2=(l2.set (j+1) y).set j x:=by unfold swp;rw[←hxx,←hyy]
    have hst1:(nuL l2).set (j+1) (.int .i64 (y:Int))=nuL (l2.set (j+1) y):=cR l2 (j+1) y
    have hst2:(nuL (l2.set (j+1) y)).set j (.int .i64 (x:Int))=nuL (swp j l2):=by rw[hsw];exact cR _ j x
    have q9:=SL_at hk (l2.set (j+1) y);have qs1:=SL_set H k l2 (l2.set (j+1) y);have qs2:=SL_set H k (l2.set (j+1) y) (swp j l2);have qnl:=aw (l2.set (j+1) y);rw[List.length_set]at qnl
    have b0:=fun h=>bO (m:=l2.set (j+1) y) (x:=j) h
    refine aK (ai tok mixed [15,17] [(2,[1]),(3,[1]),(4,[1])] [] (by kernel_rfl) fun C K hC hK=>?_);simp -implicitDefEqProofs [g9,hnl,hl2,hj1,hj0,a1,a0,wj,wj2,hst1,hst2,q9,qs1,qs2,qnl,b0,show(0:Int)≤(j:Int)+1 by omega,show(j:Int)+1<(n:Int) by omega];refine hK _ _ ?_;simp -implicitDefEqProofs -dsimp[wj,wj2];refine hN2 (j,swp j l2) _ _ ⟨by simp only;omega,by rw[swp_len];exact hl2,(swp_perm j l2 (by omega)).trans hpm2,hy⟩ (by simp only;omega) (by simp) ⟨[],by simp⟩ (by simp[gp];exact⟨hk,hfv⟩) (SL_rb hH k _)
   | false =>
    rw[if_neg (by rw[hq];simp)]at hy;rw[hzq]at hq;have hz0:=of_decide_eq_false hq;refine wx ?_;simp -implicitDefEqProofs -dsimp[g9,hnl,hl2,hj1,hj0,a1,a0,wj,wj2,show(0:Int)≤(j:Int)+1 by omega,show(j:Int)+1<(n:Int) by omega];refine .inr ⟨aJ (by kernel_rfl),?_⟩;refine aj _ cl ?_;simp -implicitDefEqProofs -dsimp[hz0];refine hQ2 _ _ _ ?_;simp -implicitDefEqProofs -dsimp[aM i (by omega)];refine hN (i+1,l2) _ _ ⟨by simp only;omega,by simp only;omega,hl2,hpm2,by rw[hy];exact hx⟩ (by simp only;omega) (by simp) ⟨[],by simp⟩ (by simp[gp];exact⟨hk,hfv⟩) (SL_rb hH k l2)
 ·rw[show n-i=0 by omega,isF]at hx;subst hx;refine wx ?_;simp -implicitDefEqProofs -dsimp[hb];refine hQ _ _ _ ?_;simp -implicitDefEqProofs -dsimp[]
theorem bitsLen(n:Nat)(h:n≤12):∃v:Int,aS Tryz.prog 110 [.int .u64 (n:Int)] fun r=>r = .int .i64 v :=
 match n,h with
 | 0,_=>⟨0,aH tok mixed al ao (fuel:=1000) (d:=40) (by kernel_rfl) (by simp)⟩
 | 1,_=>⟨1,aH tok mixed al ao (fuel:=1000) (d:=40) (by kernel_rfl) (by simp)⟩
 | 2,_=>⟨2,aH tok mixed al ao (fuel:=1000) (d:=40) (by kernel_rfl) (by simp)⟩
 | 3,_=>⟨2,aH tok mixed al ao (fuel:=1000) (d:=40) (by kernel_rfl) (by simp)⟩
 | 4,_=>⟨3,aH tok mixed al ao (fuel:=1000) (d:=40) (by kernel_rfl) (by simp)⟩
 | 5,_=>⟨3,aH tok mixed al ao (fuel:=1000) (d:=40) (by kernel_rfl) (by simp)⟩
 | 6,_=>⟨3,aH tok mixed al ao (fuel:=1000) (d:=40) (by kernel_rfl) (by simp)⟩
 | 7,_=>⟨3,aH tok mixed al ao (fuel:=1000) (d:=40) (by kernel_rfl) (by simp)⟩
 | 8,_=>⟨4,aH tok mixed al ao (fuel:=1000) (d:=40) (by kernel_rfl) (by simp)⟩
 | 9,_=>⟨4,aH tok mixed al ao (fuel:=1000) (d:=40) (by kernel_rfl) (by simp)⟩
 | 10,_=>⟨4,aH tok mixed al ao (fuel:=1000) (d:=40) (by kernel_rfl) (by simp)⟩
 | 11,_=>⟨4,aH tok mixed al ao (fuel:=1000) (d:=40) (by kernel_rfl) (by simp)⟩
 | 12,_=>⟨4,aH tok mixed al ao (fuel:=1000) (d:=40) (by kernel_rfl) (by simp)⟩
 | n+13,h=>by omega
theorem sort_h(hk:k<H.length)(hH:∀bl∈H,rbB H.length bl)(l:List Nat)(n:Nat)(hn:l.length=n)(hn2:n≤12):
  az Tryz.prog 143 [.buf k 0 n n] (SL H k l) fun _ H'=>H'=SL H k (isF ltN (n-1) 1 l):=by
 obtain⟨v,hv⟩:=bitsLen n hn2;have c1:=insOrd_h hk hH l n hn (by omega)
 have c2:az Tryz.prog 185 [.buf k 0 n n,.int .i64 0,.int .i64 n,.int .i64 v] (SL H k l) fun _ H'=>H'=SL H k (isF ltN (n-1) 1 l):=by
  have w0:IntKind.i64.wrap (n:Int)=n:=dS n (by omega);refine aD tok Tryz.func185 rfl rfl ?_;refine wx ?_;simp -implicitDefEqProofs -dsimp[Tryz.f185,List.replicate];refine aK (W_loopM 134 [1,2,3,8,9,10,11,12,13,14,15,16,17,18,19,20,21,22,23,24,25,26,27,28,29,30,31,32,33,34,35,36,37,38,39,40,41,42,43,44,45,46,47,48,49,50,51,52,53,54,55,56,57,58,59,60,61,62,63,64,65,66,67,68,69,70,71,72,73,74,75,76,77,78,79,80,81,82,83,84,85,86,87,88,89,90,91,92,93,94,95,96,97,98,99,100,101,102,103,104,105,106,107,108,109,110,111,112,113,114,115,116,117,118,119,120,121,122,123,124,125,126,127,128,129,130,131,132,133] (by simp[mB]<;>rfl) (σ:=Nat) (fun p=>p=0) (fun p=>0) (fun _=>[(8,.bool true),(9,.bool true),(1,.int .i64 0),(2,.int .i64 n),(3,.int .i64 v)]) (fun _=>SL H k l) 0 rfl (by simp) (by simp) (by simp) ?_);rintro p rfl N Q hN hQ;refine wx ?_;simp -implicitDefEqProofs -dsimp[w0,show(n:Int)≤12 by omega,show n≤12 by omega];refine bJ c1 ?_;rintro _ _ rfl;simp -implicitDefEqProofs -dsimp[];refine hQ _ _ _ ?_;simp -implicitDefEqProofs -dsimp[]
 have wu:IntKind.u64.wrap (n:Int)=(n:Int):=by rw[IntKind.wrap_u64];omega
 have g9:=SL_at hk l;have hnl:=aw l;refine aD tok Tryz.func143 rfl rfl ?_;refine wx ?_;simp -implicitDefEqProofs -dsimp[Tryz.f143,List.replicate,g9,hnl,hn,wu];refine(aG hv (by simp)).mono ?_;rintro r H' ⟨rfl,rfl⟩;simp -implicitDefEqProofs -dsimp[];refine bJ c2 ?_;rintro _ _ rfl;simp -implicitDefEqProofs -dsimp[]
theorem sortStable_h(hk:k<H.length)(hH:∀bl∈H,rbB H.length bl)(l:List Nat)(n:Nat)(hn:l.length=n)(hn2:n<20)(fv:V)(hfv:rb H.length fv)(cf:Nat→Nat→Int)(hp:∀a b,a∈l→b∈l→∀l',aV Tryz.prog fv [.int .i64 (a:Int),.int .i64 (b:Int)] (SL H k l') fun r H'=>r = .int .i64 (cf a b)∧H'=SL H k l'):
  az Tryz.prog 139 [.buf k 0 n n,fv] (SL H k l) fun _ H'=>H'=SL H k (isF (nb cf) (n-1) 1 l):=by
 have c1:=insCmp_h hk hH l n hn (by omega) fv hfv cf hp
 have c2:az Tryz.prog 183 [.buf k 0 n n,.int .i64 n,fv] (SL H k l) fun _ H'=>H'=SL H k (isF (nb cf) (n-1) 1 l):=by
  refine aD tok Tryz.func183 rfl rfl ?_;refine wx ?_;simp -implicitDefEqProofs -dsimp[Tryz.f183,List.replicate];refine aK (W_loopM 23 [7,8,11,12,13,14,15,16,17,18,19,20,21,22] (by simp[mB]<;>rfl) (σ:=Nat) (fun p=>p=0) (fun p=>0) (fun _=>[(7,.int .i64 0),(8,.int .i64 20)]) (fun _=>SL H k l) 0 rfl (by simp) (by simp) (by simp) ?_);rintro p rfl N Q hN hQ;refine wx ?_;simp -implicitDefEqProofs -dsimp[show ¬(20:Int)≤n by omega,show ¬20≤n by omega];refine hQ _ _ _ ?_;simp -implicitDefEqProofs -dsimp[];refine bJ c1 ?_;rintro _ _ rfl;simp -implicitDefEqProofs -dsimp[];refine aK (W_loopM 63 [6,7,8,9,28,29,30,31,32,33,34,35,36,37,38,39,40,41,42,43,44,45,46,47,48,49,50,51,52,53,54,55,56,57,58,59,60,61,62] (by simp[mB]<;>rfl) (σ:=Nat) (fun p=>p=0) (fun p=>0) (fun _=>[(6,.int .i64 20)]) (fun _=>SL H k (isF (nb cf) (n-1) 1 l)) 0 rfl (by simp) (by simp) (by simp) ?_);rintro p rfl N2 Q2 hN2 hQ2;refine wx ?_;simp -implicitDefEqProofs -dsimp[show ¬(20:Int)<n by omega,show ¬20<n by omega];refine hQ2 _ _ _ ?_;simp -implicitDefEqProofs -dsimp[]
 have g9:=SL_at hk l;have hnl:=aw l;refine aD tok Tryz.func139 rfl rfl ?_;refine wx ?_;simp -implicitDefEqProofs -dsimp[Tryz.f139,List.replicate,g9,hnl,hn];refine bJ c2 ?_;rintro _ _ rfl;simp -implicitDefEqProofs -dsimp[]
end
end
theorem W_ownB{P:Program}(e z j:Nat){k0 e0:Nat}{xs:List V}{c:Code}{Q:Exit→List V→List B→Prop}{fr:List V}{H:List B}(hk:H[k0]?=some (.buf e0 1 xs false))(hj:xs[j]?=some .nilS)
  (h:W P c Q fr (H.set k0 (.buf e0 1 (xs.set j (.buf H.length 0 0 0)) false)++[.buf e z [] false])):W P c Q fr H:=by
 intro s a hA hg hf hd;obtain⟨rfl,hZ⟩:=hA;obtain⟨p1,p2⟩:=nI hg 0 e z false rfl rfl rfl (Nat.le_refl _) (fun _ _=>rfl);generalize hs1:s.push s.w 0 0 (.buf e z [] false)=s1 at p1 p2
 have hk1:s1.H[k0]?=some (.buf e0 1 xs false):=by rw[←hs1];simp only[St.push];rw[List.getElem?_append_left (aE hk)];exact hk
 have hr1:∀x y u,Rel s x u→(y=x∨(x = .nilS∧y = .buf s.H.length 0 0 0))→Rel s1 y u:=fun x y u h1 h2=>by subst hs1;exact rel_own p2 h1 h2
 have hw1:s1.w=s.w:=by rw[←hs1];rfl
 have hφ:s1.φ k0=s.φ k0:=by rw[←hs1];exact bw _ _ (by have:=aE hk;omega)
 have hκ:s1.κ k0=s.κ k0:=by rw[←hs1];exact bw _ _ (by have:=aE hk;omega)
 obtain⟨vs,g2,g3,g4,g5,g6,g7⟩:=hg.blk k0 _ hk
 have hκ0:s1.κ k0≠0:=by have:=aE hj;omega
 have hlv:=lvB hk1 hκ0;have hst:=bq (w:=s1.w) (bl':=.buf e0 1 (xs.set j (.buf s.H.length 0 0 0)) false) p1 hk1 hlv (by simp[B.alike]) rfl rfl rfl (Nat.le_refl _) (fun _ _ _=>rfl)
 have hat:∀(i:Nat) y,(xs.set j (.buf s.H.length 0 0 0))[i]?=some y→∃x,xs[i]?=some x∧(y=x∨(x = .nilS∧y = .buf s.H.length 0 0 0)):=fun i y hy=>by
  by_cases e1:j=i
  ·subst e1;rw[List.getElem?_set_self (aE hj)]at hy;exact⟨.nilS,hj,.inr ⟨rfl,(Option.some.inj hy).symm⟩⟩
  ·rw[List.getElem?_set_ne e1]at hy;exact⟨y,hy,.inl rfl⟩
 have hgd:AM.Good (s1.setB s1.w k0 (.buf e0 1 (xs.set j (.buf s.H.length 0 0 0)) false)):=by
  refine cH p1 hk1 hlv (by simp[B.alike]) rfl rfl rfl (Nat.le_refl _) (fun _ _ _=>rfl) (fun hst=>?_);refine⟨vs,fun _=>by show s1.w.heap[s1.φ k0]?=_;rw[hw1,hφ];exact g2 (by rw[←hκ];exact hκ0),?_,?_,?_,fun y hy=>?_,fun i y j' d u hy hd hu=>?_⟩
  ·show vs.size=s1.κ k0*1;rw[hκ];exact g3
  ·show _≤s1.κ k0;rw[hκ,List.length_set];exact g4
  ·show s1.κ k0≤_;rw[hκ];exact g5
  ·obtain⟨i,hi⟩:=List.mem_iff_getElem?.1 hy;obtain⟨x,hx,h9⟩:=hat i y hi
   rcases h9 with h9 | ⟨_,h9⟩
   ·rw[h9];exact g6 x (List.mem_of_getElem? hx)
   ·rw[h9];exact⟨rfl,fun c hc=>by simp[V.cells]at hc;subst hc;rfl⟩
  ·obtain⟨x,hx,h9⟩:=hat i y hy
   rcases h9 with h9 | ⟨h8,h9⟩
   ·subst h9;exact(hr1 d d u (g7 i y j' d u hx hd hu) (.inl rfl)).step hst
   ·subst h9;subst h8
    have hj0:j'=0:=by have:=aE hd;simp[V.cells]at this;exact this
    subst hj0;simp[V.cells]at hd;subst hd;exact(hr1 .nilS _ u (g7 i .nilS 0 .nilS u hx rfl hu) (.inr ⟨rfl,rfl⟩)).step hst
 have hH:(s1.setB s1.w k0 (.buf e0 1 (xs.set j (.buf s.H.length 0 0 0)) false)).H=s.H.set k0 (.buf e0 1 (xs.set j (.buf s.H.length 0 0 0)) false)++[.buf e z [] false]:=by
  rw[←hs1];simp only[St.setB,St.push];rw[List.set_append,if_pos (aE hk)]
 have:=h (s1.setB s1.w k0 (.buf e0 1 (xs.set j (.buf s.H.length 0 0 0)) false)) a ⟨hH,(hZ.step p2).step hst⟩ hgd ⟨by rw[hf.len],fun i v u hv hu=>(hr1 v v u (hf.rel i v u hv hu) (.inl rfl)).step hst⟩ hd;have e1:(s1.setB s1.w k0 (.buf e0 1 (xs.set j (.buf s.H.length 0 0 0)) false)).w=s.w:=hw1;rw[e1]at this
 exact wp_mono this fun _ _ _ hl=>cS (p2.trans hst) hl
theorem W_ownBs{P:Program}(e z:Nat){k0 e0:Nat}{c:Code}{Q:Exit→List V→List B→Prop}{fr:List V} : ∀(m:Nat) (xs:List V) (H:List B),H[k0]?=some (.buf e0 1 (xs++List.replicate m .nilS) false)→
  W P c Q fr (H.set k0 (.buf e0 1 (xs++(List.range m).map fun i=>.buf (H.length+i) 0 0 0) false)++List.replicate m (.buf e z [] false))→W P c Q fr H
 | 0,xs,H,hk,h=>by
  have he:H.set k0 (.buf e0 1 (xs++(List.range 0).map fun i=>.buf (H.length+i) 0 0 0) false)++List.replicate 0 (.buf e z [] false)=H:=by
   simp only[List.range_zero,List.map_nil,List.append_nil,List.replicate_zero]at hk ⊢;have hlt:=aE hk;rw[List.getElem?_eq_getElem hlt]at hk;rw[←Option.some.inj hk,List.set_getElem_self]
  rwa [he]at h
 | m+1,xs,H,hk,h=>by
  have hj:(xs++List.replicate (m+1) V.nilS)[xs.length]?=some .nilS:=by
   rw[List.getElem?_append_right (Nat.le_refl _),Nat.sub_self];rfl
  refine W_ownB e z xs.length hk hj ?_
  have hset:(xs++List.replicate (m+1) V.nilS).set xs.length (.buf H.length 0 0 0)=(xs++[.buf H.length 0 0 0])++List.replicate m .nilS:=by
   rw[List.set_append_right _ _ (Nat.le_refl _),Nat.sub_self,List.replicate_succ,List.set_cons_zero];simp
  rw[hset];have hlt:=aE hk;refine W_ownBs e z m (xs++[.buf H.length 0 0 0]) _ (by rw[List.getElem?_append_left (by simpa using hlt),List.getElem?_set_self hlt]) ?_;rw[List.set_append_left _ _ (by simpa using hlt),List.set_set]
  have e1:(xs++[V.buf H.length 0 0 0])++(List.range m).map (fun i=>V.buf ((H.set k0 (.buf e0 1 ((xs++[.buf H.length 0 0 0])++List.replicate m .nilS) false)++[B.buf e z [] false]).length+i) 0 0 0)=xs++(List.range (m+1)).map fun i=>V.buf (H.length+i) 0 0 0:=by
   rw[List.range_succ_eq_map,List.map_cons,List.map_map,List.append_assoc,List.singleton_append,Nat.add_zero];congr 2;refine List.map_congr_left (fun i _=>?_);simp only[List.length_append,List.length_set,List.length_cons,List.length_nil,Function.comp_apply];congr 1;omega
  rw[e1,List.append_assoc,show [B.buf e z [] false]++List.replicate m (.buf e z [] false)=List.replicate (m+1) (.buf e z [] false) from rfl];exact h
section
def oQ{α:Type}(L:Nat→α)(v:Nat)(l:α):Nat→α:=fun u=>if u=v then l else L u
def atR(n:Nat)(Lh:Nat→Nat):List V:=(List.range n).map fun v=>.buf (v+4) 0 (Lh v) (Lh v)
def GH(C0:B)(E n:Nat)(rem:List Int)(Lh:Nat→Nat)(L:Nat→List Nat)(tl:List B):List B :=
 C0::.buf 3 1 (inL rem) false::.cells [.buf 1 0 E E]::.buf 109 1 (atR n Lh) false::((List.range n).map (fun v=>.buf 3 1 (nuL (L v)) false)++tl)
section
variable {C0:B} {E n:Nat} {rem:List Int} {Lh:Nat→Nat} {L:Nat→List Nat} {tl:List B}
theorem GH_0:(GH C0 E n rem Lh L tl)[0]?=some C0:=rfl
theorem GH_1:(GH C0 E n rem Lh L tl)[1]?=some (.buf 3 1 (inL rem) false):=rfl
theorem GH_2:(GH C0 E n rem Lh L tl)[2]?=some (.cells [.buf 1 0 E E]):=rfl
theorem GH_3:(GH C0 E n rem Lh L tl)[3]?=some (.buf 109 1 (atR n Lh) false):=rfl
theorem GH_v{v:Nat}(h:v<n):(GH C0 E n rem Lh L tl)[v+4]?=some (.buf 3 1 (nuL (L v)) false):=by
 show((List.range n).map (fun v=>B.buf 3 1 (nuL (L v)) false)++tl)[v]?=_;rw[List.getElem?_append_left (by simpa using h)];simp[h]
theorem GH_tl(i:Nat):(GH C0 E n rem Lh L tl)[n+4+i]?=tl[i]?:=by
 rw[show n+4+i=n+i+4 by omega];show((List.range n).map (fun v=>B.buf 3 1 (nuL (L v)) false)++tl)[n+i]?=_;rw[List.getElem?_append_right (by simp)];simp
theorem eM:(GH C0 E n rem Lh L tl).length=n+4+tl.length:=by
 simp[GH];omega
theorem GH_set1(rem':List Int):(GH C0 E n rem Lh L tl).set 1 (.buf 3 1 (inL rem') false)=GH C0 E n rem' Lh L tl:=rfl
theorem GH_set3(Lh':Nat→Nat):(GH C0 E n rem Lh L tl).set 3 (.buf 109 1 (atR n Lh') false)=GH C0 E n rem Lh' L tl:=rfl
theorem jv{α:Type}(n v:Nat)(F F':Nat→α)(y:α)(h1:F' v=y)(h2:∀u,u≠v→F' u=F u):((List.range n).map F).set v y=(List.range n).map F':=by
 refine List.ext_getElem (by simp) (fun i hi1 hi2=>?_);rw[List.getElem_set];split
 ·rename_i he;subst he;simp[h1]
 ·rename_i he;simp[h2 i (fun h=>he h.symm)]
theorem GH_setv{v:Nat}(h:v<n)(l:List Nat):(GH C0 E n rem Lh L tl).set (v+4) (.buf 3 1 (nuL l) false)=GH C0 E n rem Lh (oQ L v l) tl:=by
 show C0::_::_::_::(((List.range n).map (fun v=>B.buf 3 1 (nuL (L v)) false)++tl).set v (.buf 3 1 (nuL l) false))=_;rw[List.set_append_left _ _ (by simpa using h),jv n v _ (fun u=>B.buf 3 1 (nuL (oQ L v l u)) false) _ (by simp[oQ]) (fun u hu=>by simp[oQ,hu])];rfl
theorem atR_len:(atR n Lh).length=n:=by simp[atR]
theorem atR_get{v:Nat}(h:v<(atR n Lh).length):(atR n Lh)[v] = .buf (v+4) 0 (Lh v) (Lh v):=by simp[atR]
theorem atR_set(v m:Nat):(atR n Lh).set v (.buf (v+4) 0 m m)=atR n (oQ Lh v m):=by
 unfold atR;exact jv n v _ _ _ (by simp[oQ]) (fun u hu=>by simp[oQ,hu])
theorem GH_rb(h0:rbB 1 C0)(ht:∀bl∈tl,rbB (n+4+tl.length) bl):∀bl∈GH C0 E n rem Lh L tl,rbB (GH C0 E n rem Lh L tl).length bl:=by
 rw[eM];intro bl hb;unfold GH at hb
 rcases List.mem_cons.1 hb with rfl | hb
 ·exact rbBM (by omega) h0
 rcases List.mem_cons.1 hb with rfl | hb
 ·exact(rbB_buf1 (iE _)).2 trivial
 rcases List.mem_cons.1 hb with rfl | hb
 ·intro c hc;simp at hc;subst hc;show 1<_;omega
 rcases List.mem_cons.1 hb with rfl | hb
 ·intro x hx c hc;obtain⟨v,hv,rfl⟩:=List.mem_map.1 hx;rw[List.mem_range]at hv;simp[V.cells]at hc;subst hc;show v+4<_;omega
 rcases List.mem_append.1 hb with hb | hb
 ·obtain⟨v,_,rfl⟩:=List.mem_map.1 hb;exact(rbB_buf1 (cY _)).2 trivial
 ·exact ht bl hb
end
def LE(es:List (List Nat))(i k v:Nat):List Nat:=(List.range i).filter (fun j=>decide (v∈es.getD j []))++if v∈(es.getD i []).take k then [i] else []
theorem LE_succ{es:List (List Nat)}{i k:Nat}(hk:k<(es.getD i []).length)(hn:(es.getD i []).Nodup):LE es i (k+1)=oQ (LE es i k) (es.getD i [])[k] (LE es i k (es.getD i [])[k]++[i]):=by
 funext u;unfold oQ LE;rw[List.take_succ_eq_append_getElem hk];by_cases h:u=(es.getD i [])[k]
 ·rw[if_pos h,if_pos (by rw[h];exact List.mem_append_right _ (List.mem_singleton.2 rfl)),h]
  have:¬(es.getD i [])[k]∈(es.getD i []).take k:=by
   intro hm;obtain⟨j,hj,he⟩:=List.mem_iff_getElem.1 hm;rw[List.getElem_take]at he
   have hjk:j<k:=by rw[List.length_take]at hj;omega
   exact List.pairwise_iff_getElem.1 hn j k (by omega) hk hjk he
  rw[if_neg this,List.append_nil]
 ·rw[if_neg h]
  have:(u∈(es.getD i []).take k++[(es.getD i [])[k]])↔u∈(es.getD i []).take k:=by
   rw[List.mem_append,List.mem_singleton];exact⟨fun h2=>h2.elim id (fun e=>absurd e h),.inl⟩
  simp only[this]
theorem LE_next(es:List (List Nat))(i:Nat):LE es (i+1) 0=LE es i (es.getD i []).length:=by
 funext u;unfold LE;rw[List.range_succ,List.filter_append,List.take_zero,if_neg (by simp),List.append_nil,List.take_length];congr 1;rw[List.filter_cons,List.filter_nil];by_cases h:u∈es.getD i []
 ·rw[if_pos (decide_eq_true h),if_pos h]
 ·rw[if_neg (by simpa using h),if_neg h]
theorem LE_len(es:List (List Nat))(i k v:Nat):(LE es i k v).length≤i+1:=by
 unfold LE;have:=List.length_filter_le (fun j=>decide (v∈es.getD j [])) (List.range i);rw[List.length_append];split<;>simp at this ⊢<;>omega
theorem LE_mem(es:List (List Nat))(j v:Nat):j∈LE es es.length 0 v↔j<es.length∧v∈es.getD j []:=by
 unfold LE;rw[List.take_zero,if_neg (by simp),List.append_nil,List.mem_filter,List.mem_range,decide_eq_true_iff]
def eU(es:List (List Nat))(i:Nat):List Int:=(List.range es.length).map fun j=>if j<i then((es.getD j []).length:Int) else 0
theorem lG(es:List (List Nat))(i:Nat):(eU es i).length=es.length:=by simp[eU]
theorem remF_set{es:List (List Nat)}{i:Nat} : (eU es i).set i ((es.getD i []).length:Int)=eU es (i+1):=by
 unfold eU;refine jv _ i _ _ _ (by simp) (fun u hu=>?_)
 have:u<i+1↔u<i:=by omega
 simp only[this]
theorem remF_get{es:List (List Nat)}{j:Nat}(h:j<es.length):(eU es es.length).getD j 0=((es.getD j []).length:Int):=by
 rw[ak _ _ (by rw[lG];exact h)];simp[eU,h]
end
section
theorem idxFuncB(H:List B)(k:Nat)(fv:V)(p:Nat→Bool)(e:List Nat)(m:Nat)(hm:m=e.length)(hk:H[k]?=some (.buf 3 1 (nuL e) false))(hes:e.length≤1000000)(hH:∀bl∈H,rbB H.length bl)(hfv:rb H.length fv)
  (hp:∀v∈e,aV Tryz.prog fv [.int .i64 (v:Int)] H fun r H'=>r = .bool (p v)∧H'=H):az Tryz.prog 184 [.buf k 0 m m,fv] H fun r H'=>r = .int .i64 (ixN p e 0)∧H'=H:=by
 subst hm;have hkl:k<H.length:=aE hk;have hnl:=aw e;refine aD tok Tryz.func184 rfl rfl ?_;refine wx ?_;simp -implicitDefEqProofs -dsimp[Tryz.f184,List.replicate,hk,hnl];refine aK (W_loopM 19 [4,5,8,9,10,11,12,13,14,15,16,17,18] (by simp[mB]<;>rfl) (σ:=Nat) (fun i=>ixN p e i=ixN p e 0) (fun i=>e.length-i) (fun i=>[(8,.int .i64 i)]) (fun _=>H) 0 rfl (by simp) rfl (by simp) ?_);intro i hx N Q hN hQ;by_cases hb:i<e.length
 ·rw[ixN,dif_pos hb]at hx;have hc:=hp e[i] (List.getElem_mem hb)
  have hat:=fun h=>bO (m:=e) (x:=i) h
  rw[ak e 0 hb]at hat;obtain⟨v,hv⟩:∃v,v=e[i]:=⟨_,rfl⟩;rw[←hv]at hat hc hx;cases hq:p v
  ·rw[hq]at hc hx;refine wx ?_;simp -implicitDefEqProofs -dsimp[hb,hk,hnl,hat];refine hc.mono ?_;rintro r H' ⟨rfl,rfl⟩;simp -implicitDefEqProofs -dsimp[aM i (by omega)];refine hN (i+1) _ _ (by simpa using hx) (by omega) (by simp) ⟨[],by simp⟩ (by simp[hkl];exact hfv) hH
  ·rw[hq]at hc hx;refine wx ?_;simp -implicitDefEqProofs -dsimp[hb,hk,hnl,hat];refine hc.mono ?_;rintro r H' ⟨rfl,rfl⟩;simp -implicitDefEqProofs -dsimp[];refine hQ _ _ _ ?_;simp -implicitDefEqProofs -dsimp[];simpa using hx
 ·rw[ixN,dif_neg hb]at hx;refine wx ?_;simp -implicitDefEqProofs -dsimp[hb];refine hQ _ _ _ ?_;simp -implicitDefEqProofs -dsimp[];simpa using hx
theorem contFuncB(H:List B)(k:Nat)(fv:V)(p:Nat→Bool)(e:List Nat)(m:Nat)(hm:m=e.length)(hk:H[k]?=some (.buf 3 1 (nuL e) false))(hes:e.length≤1000000)(hH:∀bl∈H,rbB H.length bl)(hfv:rb H.length fv)
  (hp:∀v∈e,aV Tryz.prog fv [.int .i64 (v:Int)] H fun r H'=>r = .bool (p v)∧H'=H):az Tryz.prog 141 [.buf k 0 m m,fv] H fun r H'=>r = .bool (e.any p)∧H'=H:=by
 have h0:=ixN_any p e 0;rw[List.drop_zero]at h0;have hc:=idxFuncB H k fv p e m hm hk hes hH hfv hp;refine aD tok Tryz.func141 rfl rfl ?_;refine wx ?_;simp -implicitDefEqProofs -dsimp[Tryz.f141,List.replicate];refine(show aV Tryz.prog (.fn 184 []) _ H _ from by simpa[aV] using hc).mono ?_;rintro r H' ⟨rfl,rfl⟩;simp -implicitDefEqProofs -dsimp[];rw[←h0]
section
variable {C0:B} {E n:Nat} {rem:List Int} {Lh:Nat→Nat} {L:Nat→List Nat} {tl:List B}
theorem GH_app(X:B):GH C0 E n rem Lh L tl++[X]=GH C0 E n rem Lh L (tl++[X]):=by simp[GH]
theorem GH_SL(X:B)(l:List Nat):SL (GH C0 E n rem Lh L (X::tl)) (n+4) l=GH C0 E n rem Lh L (.buf 3 1 (nuL l) false::tl):=by
 show C0::_::_::_::(((List.range n).map (fun v=>B.buf 3 1 (nuL (L v)) false)++X::tl).set n (.buf 3 1 (nuL l) false))=_;rw[List.set_append_right _ _ (by simp)];simp[GH]
theorem GH_SL2(X Y:B)(l:List Nat):SL (GH C0 E n rem Lh L (X::Y::tl)) (n+5) l=GH C0 E n rem Lh L (X::.buf 3 1 (nuL l) false::tl):=by
 show C0::_::_::_::(((List.range n).map (fun v=>B.buf 3 1 (nuL (L v)) false)++X::Y::tl).set (n+1) (.buf 3 1 (nuL l) false))=_;rw[List.set_append_right _ _ (by simp)];simp[GH]
end
def kQ(n i:Nat):List Nat:=(List.range n).map fun j=>if j<i then j else 0
theorem ordF_len(n i:Nat):(kQ n i).length=n:=by simp[kQ]
theorem ordF_set(n i:Nat):(kQ n i).set i i=kQ n (i+1):=by
 unfold kQ;refine jv _ i _ _ _ (by simp) (fun u hu=>?_)
 have:u<i+1↔u<i:=by omega
 simp only[this]
theorem ordF_all(n:Nat):kQ n n=List.range n:=by
 unfold kQ;refine List.ext_getElem (by simp) (fun i h1 h2=>?_);simp at h1;simp[h1]
theorem ordF_zero(n:Nat):List.replicate n (V.int .i64 0)=nuL (kQ n 0):=by
 unfold nuL kQ;refine List.ext_getElem (by simp) (fun i h1 h2=>by simp[eN])
end
def kep(ord out:List Nat)(p v:Nat):Bool:=decide (v∈out∨v∈ord.drop p)
structure GI (es:List (List Nat)) (ord:List Nat) (p:Nat) (rem:List Int) (out:List Nat):Prop where
 len:rem.length=es.length
 cnt:∀j<es.length,rem.getD j 0=((es.getD j []).countP (kep ord out p):Nat)
 pos:∀j<es.length,1≤rem.getD j 0
 sub:∀v∈out,v∈ord.take p
 nd:out.Nodup
theorem pA{ord:List Nat}(hn:ord.Nodup){p:Nat}(hp:p<ord.length):ord[p]∉ord.take p∧ord[p]∉ord.drop (p+1):=by
 have h:ord=ord.take p++ord[p]::ord.drop (p+1):=by rw[←List.drop_eq_getElem_cons hp,List.take_append_drop]
 have hn2:=hn;rw[h,List.nodup_append]at hn2;obtain⟨_,h2,h3⟩:=hn2;exact⟨fun hm=>h3 _ hm _ (List.mem_cons_self) rfl,(List.nodup_cons.1 h2).1⟩
theorem GI.keep{es:List (List Nat)}{ord:List Nat}{p:Nat}{rem:List Int}{out:List Nat}(g:GI es ord p rem out)(hn:ord.Nodup)(hp:p<ord.length):GI es ord (p+1) rem (out++[ord[p]]):=by
 have hk:kep ord (out++[ord[p]]) (p+1)=kep ord out p:=by
  funext v;unfold kep;rw[List.drop_eq_getElem_cons hp];simp only[List.mem_append,List.mem_cons,List.not_mem_nil,or_false,or_assoc]
 have ho:ord[p]∉out:=fun h=>(pA hn hp).1 (g.sub _ h)
 refine⟨g.len,fun j hj=>by rw[hk];exact g.cnt j hj,g.pos,fun v hv=>?_,?_⟩
 ·rw[List.take_succ_eq_append_getElem hp]
  rcases List.mem_append.1 hv with h | h
  ·exact List.mem_append_left _ (g.sub v h)
  ·exact List.mem_append_right _ h
 ·rw[List.nodup_append];refine⟨g.nd,by simp,fun a ha b hb=>?_⟩;rw[List.mem_singleton]at hb;subst hb;rintro rfl;exact ho ha
theorem mA{P Q:Nat→Bool}{v:Nat}(hq:Q v=false)(hpv:P v=true)(h:∀u,u≠v→P u=Q u):∀e:List Nat,e.Nodup→e.countP P=e.countP Q+if v∈e then 1 else 0
 | [],_=>by simp
 | u::e,hn=>by
  obtain⟨h1,h2⟩:=List.nodup_cons.1 hn;rw[List.countP_cons,List.countP_cons,mA hq hpv h e h2];by_cases hu:u=v
  ·subst hu;rw[if_neg h1,if_pos hpv,hq,if_pos List.mem_cons_self,if_neg (by simp)]
  ·rw[h u hu]
   have:(v∈u::e)↔v∈e:=by
    rw[List.mem_cons];exact⟨fun h=>h.elim (fun e=>absurd e.symm hu) id,.inr⟩
   simp only[this];omega
theorem GI.out{es:List (List Nat)}{ord:List Nat}{p:Nat}{rem rem':List Int}{out:List Nat}{L:List Nat}(g:GI es ord p rem out)(hn:ord.Nodup)(hp:p<ord.length)(hE:∀e∈es,e.Nodup)(hL:∀j,j∈L↔j<es.length∧ord[p]∈es.getD j [])
  (h1:∀j∈L,rem.getD j 0≠1) (hl:rem'.length=es.length) (hr:∀j<es.length,rem'.getD j 0=rem.getD j 0-if j∈L then 1 else 0):GI es ord (p+1) rem' out:=by
 obtain⟨n1,n2⟩:=pA hn hp
 have ho:ord[p]∉out:=fun h=>n1 (g.sub _ h)
 refine⟨hl,fun j hj=>?_,fun j hj=>?_,fun v hv=>?_,g.nd⟩
 ·have hs:=mA (P:=kep ord out p) (Q:=kep ord out (p+1)) (v:=ord[p]) (by unfold kep;exact decide_eq_false (by rintro(h | h);exact ho h;exact n2 h)) (by unfold kep;rw[List.drop_eq_getElem_cons hp];exact decide_eq_true (.inr List.mem_cons_self)) (fun u hu=>by
   unfold kep;rw[List.drop_eq_getElem_cons hp]
   have:(u∈out∨u∈ord[p]::ord.drop (p+1))↔(u∈out∨u∈ord.drop (p+1)):=by
    rw[List.mem_cons];exact⟨fun h=>h.elim .inl (fun h=>h.elim (fun e=>absurd e hu) .inr),fun h=>h.elim .inl (fun h=>.inr (.inr h))⟩
   simp only[this]) (es.getD j []) (hE _ (eY hj))
  rw[hr j hj,g.cnt j hj,hs];by_cases hm:j∈L
  ·rw[if_pos hm,if_pos ((hL j).1 hm).2];omega
  ·rw[if_neg hm,if_neg (fun h=>hm ((hL j).2 ⟨hj,h⟩))];omega
 ·rw[hr j hj];have h2:=g.pos j hj;split
  ·have:=h1 j (by assumption);omega
  ·omega
 ·rw[List.take_succ_eq_append_getElem hp];exact List.mem_append_left _ (g.sub v hv)
theorem GI.hits{es:List (List Nat)}{ord:List Nat}{p:Nat}{rem:List Int}{out:List Nat}(g:GI es ord p rem out)(hp:ord.length≤p):∀e∈es,∃v∈e,v∈out:=by
 intro e he;obtain⟨j,hj,rfl⟩:=List.mem_iff_getElem.1 he;have h1:=g.cnt j hj;have h2:=g.pos j hj;rw[ak es [] hj]at h1
 have h3:0<(es[j]).countP (kep ord out p):=by omega
 obtain⟨v,hv,hk⟩:=List.countP_pos_iff.1 h3;refine⟨v,hv,?_⟩;unfold kep at hk;rw[List.drop_of_length_le hp]at hk;simpa using hk
theorem GI.start{es:List (List Nat)}{n:Nat}{ord:List Nat}{rem:List Int}(he:gq n es)(hp:ord.Perm (List.range n))(hl:rem.length=es.length)(hr:∀j<es.length,rem.getD j 0=((es.getD j []).length:Int)):GI es ord 0 rem []:=by
 refine⟨hl,fun j hj=>?_,fun j hj=>?_,by simp,by simp⟩
 ·rw[hr j hj]
  have:(es.getD j []).countP (kep ord [] 0)=(es.getD j []).length:=by
   rw[List.countP_eq_length];intro v hv;unfold kep;exact decide_eq_true (.inr (by rw[List.drop_zero];exact hp.mem_iff.2 (List.mem_range.2 ((he _ (eY hj)).2.2 v hv))))
  rw[this]
 ·rw[hr j hj];have:=(he _ (eY hj)).1;have:0<(es.getD j []).length:=List.length_pos_iff.2 this;omega
theorem sort_ok{n:Nat}{es:List (List Nat)}{ord:List Nat}{p:Nat}{rem:List Int}{out:List Nat}(g:GI es ord p rem out)(hp:ord.length≤p)(ho:∀v∈ord,v<n):(isF ltN (out.length-1) 1 out).Pairwise (· < ·)∧(∀v∈isF ltN (out.length-1) 1 out,v<n)∧∀e∈es,∃v∈e,v∈isF ltN (out.length-1) 1 out:=by
 have hpm:(isF ltN (out.length-1) 1 out).Perm out:=by
  by_cases h0:out.length=0
  ·rw[h0];exact .refl _
  ·exact jR _ _ _ _ (by omega)
 have hso:(isF ltN (out.length-1) 1 out).Pairwise (·≤·):=by
  by_cases h0:out.length=0
  ·have:out=[]:=List.length_eq_zero_iff.1 h0;subst this;simp[isF]
  ·refine pO _ _ _ (by omega) ?_
   cases out with
   | nil=>simp at h0
   | cons a l=>simp
 have hnd:=hpm.nodup_iff.2 g.nd;refine⟨?_,fun v hv=>ho v (List.mem_of_mem_take (g.sub v (hpm.mem_iff.1 hv))),fun e he=>?_⟩
 ·exact(hso.and hnd).imp (fun h=>by omega)
 ·obtain⟨v,h1,h2⟩:=g.hits hp e he;exact⟨v,h1,hpm.mem_iff.2 h2⟩
structure GrOk (n:Nat) (es:List (List Nat)) (l:List Nat):Prop where
 s:l.Pairwise (· < ·)
 n:∀v∈l,v<n
 h:∀e∈es,∃v∈e,v∈l
def pn(rm:List Int)(j:Nat):List Int:=rm.set j (rm.getD j 0-1)
def grF(L:Nat→List Nat):List Nat→List Int→List Nat→List Nat
 | [],_,out=>out
 | v::l,rem,out=>if(L v).any (fun j=>decide (rem.getD j 0=1))=true then grF L l rem (out++[v]) else grF L l ((L v).foldl pn rem) out
def pS(ws:List Int)(n:Nat):List Nat:=isF (nb fun a b=>ws.getD b 0-ws.getD a 0) (n-1) 1 (List.range n)
noncomputable def greedyO(ws:List Int)(es:List (List Nat)):List Nat:=grF (LE es es.length 0) (pS ws ws.length) (eU es es.length) []
noncomputable def ip(ws:List Int)(es:List (List Nat)):List Nat:=isF ltN ((greedyO ws es).length-1) 1 (greedyO ws es)
theorem dec_len:∀(l:List Nat) (rm:List Int),(l.foldl pn rm).length=rm.length
 | [],rm=>rfl
 | j::l,rm=>by rw[List.foldl_cons,dec_len l];simp[pn]
theorem dec_get:∀(l:List Nat) (rm:List Int),l.Nodup→(∀j∈l,j<rm.length)→∀i,(l.foldl pn rm).getD i 0=rm.getD i 0-if i∈l then 1 else 0
 | [],rm,_,_,i=>by simp
 | j::l,rm,hn,hl,i=>by
  rw[List.nodup_cons]at hn;have hj:=hl j (by simp);rw[List.foldl_cons,dec_get l _ hn.2 (fun k hk=>by simp only[pn,List.length_set];exact hl k (by simp[hk])) i];by_cases hij:j=i
  ·subst hij;rw[if_neg hn.1,if_pos (by simp)];unfold pn;rw[aX _ hj];omega
  ·unfold pn;rw[af _ hij]
   have:(i∈j::l)↔i∈l:=by rw[List.mem_cons];exact⟨fun h=>h.elim (fun e=>absurd e.symm hij) id,.inr⟩
   simp only[this]
theorem grF_gi{es:List (List Nat)}{ord:List Nat}{n:Nat}{L:Nat→List Nat}(hol:ord.length=n)(hon:ord.Nodup)(hdnd:∀e∈es,e.Nodup)(hLm:∀v j,j∈L v↔j<es.length∧v∈es.getD j [])(hLn:∀v,(L v).Nodup):
  ∀(k p:Nat) (rem:List Int) (out:List Nat),p+k=n→GI es ord p rem out→out.length≤p→∃rem',GI es ord n rem' (grF L (ord.drop p) rem out)∧(grF L (ord.drop p) rem out).length≤n
 | 0,p,rem,out,hk,gi,ho=>by
  obtain rfl:p=n:=by omega
  rw[List.drop_of_length_le (by omega)];exact⟨rem,gi,ho⟩
 | k+1,p,rem,out,hk,gi,ho=>by
  have hpo:p<ord.length:=by omega
  rw[List.drop_eq_getElem_cons hpo,grF];split
  ·exact grF_gi hol hon hdnd hLm hLn k (p+1) rem _ (by omega) (gi.keep hon hpo) (by simp;omega)
  ·rename_i hany
   have hany2:∀j∈L ord[p],rem.getD j 0≠1:=fun j hj he=>hany (List.any_eq_true.2 ⟨j,hj,decide_eq_true he⟩)
   refine grF_gi hol hon hdnd hLm hLn k (p+1) _ _ (by omega) (GI.out (rem':=(L ord[p]).foldl pn rem) (L:=L ord[p]) gi hon hpo hdnd (hLm ord[p]) hany2 (by rw[dec_len,gi.len]) (fun j hj=>?_)) (by omega);exact dec_get _ _ (hLn _) (fun i hi=>by rw[gi.len];exact((hLm _ i).1 hi).1) j
theorem pR{ws:List Int}{es:List (List Nat)}(hb:HsB ws es)(hn:ws.length≤12):GrOk ws.length es (ip ws es):=by
 have hed:=hb.ed
 have hLm:∀v j,j∈LE es es.length 0 v↔j<es.length∧v∈es.getD j []:=fun v j=>LE_mem es j v
 have hLn:∀v,(LE es es.length 0 v).Nodup:=fun v=>by
  unfold LE;rw[List.take_zero,if_neg (by simp),List.append_nil];exact(List.nodup_range).filter _
 have hperm:(pS ws ws.length).Perm (List.range ws.length):=by
  unfold pS;by_cases h0:ws.length=0
  ·rw[h0];exact .refl _
  ·exact jR _ _ _ _ (by simp;omega)
 have hol:(pS ws ws.length).length=ws.length:=by rw[hperm.length_eq];simp
 have hon:(pS ws ws.length).Nodup:=hperm.nodup_iff.2 List.nodup_range
 have hom:∀v∈pS ws ws.length,v<ws.length:=fun v hv=>List.mem_range.1 (hperm.mem_iff.1 hv)
 have hdnd:∀e∈es,e.Nodup:=fun e he=>(hed e he).2.1.imp (fun h=>by omega)
 obtain⟨rem',gi,hl⟩:=grF_gi hol hon hdnd hLm hLn ws.length 0 (eU es es.length) [] (by omega) (GI.start hed hperm (lG es _) (fun j hj=>remF_get hj)) (by simp);rw[List.drop_zero]at gi hl;have hso:=sort_ok gi (by omega) hom;exact⟨hso.1,hso.2.1,hso.2.2⟩
theorem greedy_u{ws:List Int}{es:List (List Nat)}(hb:HsB ws es)(f g:Bool)(hn:ws.length≤12):
  aS Tryz.prog 103 [ah f g ws es] fun r=>r = .tup [Ln false (ip ws es),.int .i64 0]:=by
 obtain⟨GF,hGF⟩:∃GF,GF=ip ws es:=⟨_,rfl⟩;rw[←hGF]
 have hel:∀e∈es,e.length≤1000000:=fun e he=>by have:=hb.ed.len e he;omega
 have cv:=lW ws es f g hel;rw[eT.2 hb]at cv;have he2:=hb.ne;obtain⟨n,hnn⟩:∃n,n=ws.length:=⟨_,rfl⟩;rw[←hnn]at hn
 have hrep:List.replicate es.length (V.int .i64 0)=inL (eU es 0):=by
  unfold inL eU;rw[List.map_map];refine List.ext_getElem (by simp) (fun i h1 h2=>by simp[ac])
 have hed:gq n es:=hnn▸hb.ed;obtain⟨C0,hC0⟩:∃C0,C0=B.cells [.lst 1 f (ws.map ac),.lst 1 g (es.map (Ln false))]:=⟨_,rfl⟩
 have hrb0:rbB 1 C0:=by
  subst hC0;intro c hc;simp only[List.mem_cons,List.not_mem_nil,or_false]at hc
  rcases hc with rfl | rfl
  ·exact cG (L1_pure f ws) rfl
  ·exact cG (LLn_pure g es) rfl
 simp only[ah,L1,LLn]at cv;refine cU (aD tok Tryz.func103 rfl rfl ?_);refine wx ?_;simp -implicitDefEqProofs -dsimp[Tryz.f103,List.replicate,L1,LLn,Ln,ah];refine(aG (cv) (by simp)).mono ?_;rintro r H' ⟨rfl,rfl⟩;simp -implicitDefEqProofs -dsimp[hrep,←hnn,show(8:Int)*es.length≤281474976710656 by omega,show(es.length:Int)≤9223372036854775807 by omega,show(24:Int)*n≤281474976710656 by omega,show(n:Int)≤9223372036854775807 by omega,L1,LLn,Ln,ah];refine aK (W_ownBs 3 1 n [] _ (k0:=3) (e0:=109) rfl (W_loopM 62 [7,8,10,34,35,36,37,38,39,40,41,42,43,44,45,46,47,48,49,50,51,52,53,54,55,56,57,58,59,60,61] (by simp[mB]<;>rfl) (σ:=Nat) (fun i=>i≤es.length) (fun i=>es.length-i) (fun i=>[(34,.int .i64 i)]) (fun i=>GH C0 es.length n (eU es i) (fun v=>(LE es i 0 v).length) (LE es i 0) []) 0 (by omega) (by simp) ?_ ?_ ?_))
 ·rw[hC0];simp[GH,atR,LE,nuL,Function.comp_def,Nat.add_comm];exact List.ext_getElem (by simp) (fun i h1 h2=>by simp)
 ·intro i _;simp[GH]
 intro i hi N Q hN hQ;by_cases hbi:i<es.length
 ·obtain⟨e1,e2,e3⟩:=hed es[i] (List.getElem_mem hbi);have e4:=hel es[i] (List.getElem_mem hbi);have hge:es.getD i []=es[i]:=eD hbi
  have hnd:(es.getD i []).Nodup:=by rw[hge];exact e2.imp (fun h=>by omega)
  obtain⟨e,he⟩:∃e,e=es[i]:=⟨_,rfl⟩;rw[←he]at e1 e2 e3 e4 hge;have hei:=he.symm;have hrs:=remF_set (es:=es) (i:=i);rw[hge]at hrs;have hst:=lV (eU es i) i (e.length:Int);rw[hrs]at hst;have q0:=GH_0 (C0:=C0) (E:=es.length) (n:=n) (rem:=eU es i) (Lh:=fun v=>(LE es i 0 v).length) (L:=LE es i 0) (tl:=[]);have q1:=GH_1 (C0:=C0) (E:=es.length) (n:=n) (rem:=eU es i) (Lh:=fun v=>(LE es i 0 v).length) (L:=LE es i 0) (tl:=[]);have q2:=GH_2 (C0:=C0) (E:=es.length) (n:=n) (rem:=eU es i) (Lh:=fun v=>(LE es i 0 v).length) (L:=LE es i 0) (tl:=[]);have qs:=GH_set1 (C0:=C0) (E:=es.length) (n:=n) (rem:=eU es i) (Lh:=fun v=>(LE es i 0 v).length) (L:=LE es i 0) (tl:=[]) (eU es (i+1))
  have hgl:=fun h=>ef (m:=eU es i) (x:=i) h
  have hll:=(ee (eU es i)).trans (lG es i);refine wx ?_;simp -implicitDefEqProofs -dsimp[hbi,hei,q1,q2,qs,hst,hgl,hll,L1,LLn,Ln,ah];refine aK (W_loopM 61 [10,46,47,48,49,50,51,52,53,54,55,56,57,58,59,60] (by simp[mB]<;>rfl) (σ:=Nat) (fun k=>k≤e.length) (fun k=>e.length-k) (fun k=>[(46,.int .i64 k)]) (fun k=>GH C0 es.length n (eU es (i+1)) (fun v=>(LE es i k v).length) (LE es i k) []) 0 (by omega) (by simp) (by simp) (by intro k _;simp[GH]) ?_);intro k hk N2 Q2 hN2 hQ2;by_cases hbk:k<e.length
  ·have hvn:=e3 e[k] (List.getElem_mem hbk);have hls:=LE_succ (es:=es) (i:=i) (k:=k) (by rw[hge];exact hbk) hnd
   have hgk:(es.getD i [])[k]'(by rw[hge];exact hbk)=e[k]:=by simp only[hge]
   rw[hgk]at hls;obtain⟨v,hv⟩:∃v,v=e[k]:=⟨_,rfl⟩;rw[←hv]at hvn hls;have hev:=hv.symm;have hlen:=LE_len es i k v;have r3:=GH_3 (C0:=C0) (E:=es.length) (n:=n) (rem:=eU es (i+1)) (Lh:=fun v=>(LE es i k v).length) (L:=LE es i k) (tl:=[]);have rv:=GH_v (C0:=C0) (E:=es.length) (n:=n) (rem:=eU es (i+1)) (Lh:=fun v=>(LE es i k v).length) (L:=LE es i k) (tl:=[]) hvn;have rsv:=GH_setv (C0:=C0) (E:=es.length) (n:=n) (rem:=eU es (i+1)) (Lh:=fun v=>(LE es i k v).length) (L:=LE es i k) (tl:=[]) hvn (LE es i k v++[i]);rw[←hls]at rsv;have r3b:=GH_3 (C0:=C0) (E:=es.length) (n:=n) (rem:=eU es (i+1)) (Lh:=fun v=>(LE es i k v).length) (L:=LE es i (k+1)) (tl:=[])
   have hLh:(fun u=>(LE es i (k+1) u).length)=oQ (fun u=>(LE es i k u).length) v ((LE es i k v).length+1):=by
    funext u;rw[hls];unfold oQ;by_cases h:u=v
    ·rw[if_pos h,if_pos h];simp
    ·rw[if_neg h,if_neg h]
   have rs3:=GH_set3 (C0:=C0) (E:=es.length) (n:=n) (rem:=eU es (i+1)) (Lh:=fun v=>(LE es i k v).length) (L:=LE es i (k+1)) (tl:=[]) (fun u=>(LE es i (k+1) u).length)
   have ra:=fun h=>atR_get (n:=n) (Lh:=fun v=>(LE es i k v).length) (v:=v) h
   have ral:=atR_len (n:=n) (Lh:=fun v=>(LE es i k v).length);have ras:=atR_set (n:=n) (Lh:=fun v=>(LE es i k v).length) v ((LE es i k v).length+1);rw[←hLh]at ras
   have hna:nuL (LE es i k v)++[.int .i64 (i:Int)]=nuL (LE es i k v++[i]):=by simp[nuL,eN]
   have hnl:=aw (LE es i k v);obtain⟨m,hm⟩:∃m,m=(LE es i k v).length:=⟨_,rfl⟩;rw[←hm]at ra ras hnl hlen;refine wx ?_;simp -implicitDefEqProofs -dsimp[hbk,hev,eN,r3,rv,rsv,r3b,rs3,ra,ral,ras,hna,hnl,hvn,show m≤9223372036854775806 by omega,show(m+1)*8≤140737488355328 by omega,aM k (by omega),L1,LLn,Ln,ah];refine hN2 (k+1) _ _ (by omega) (by omega) (by simp) ⟨[],by simp⟩ (by simp[eM]) (GH_rb hrb0 (by simp))
  ·obtain rfl:k=e.length:=by omega
   have hnx:=LE_next es i;rw[hge]at hnx;refine wx ?_;simp -implicitDefEqProofs -dsimp[hbk,L1,LLn,Ln,ah];refine hQ2 _ _ _ ?_;simp -implicitDefEqProofs -dsimp[aM i (by omega),L1,LLn,Ln,ah];refine hN (i+1) _ _ (by omega) (by omega) (by simp) ⟨[],by simp[hnx]⟩ (by simp[GH]) ?_;exact GH_rb hrb0 (by simp)
 ·obtain rfl:i=es.length:=by omega
  clear hN hi;obtain⟨L,hL⟩:∃L,L=LE es es.length 0:=⟨_,rfl⟩
  have hLm:∀v j,j∈L v↔j<es.length∧v∈es.getD j []:=fun v j=>by rw[hL];exact LE_mem es j v
  have hLl:∀v,(L v).length≤2001:=fun v=>by rw[hL];have:=LE_len es es.length 0 v;omega
  have hLn:∀v,(L v).Nodup:=fun v=>by
   rw[hL];unfold LE;rw[List.take_zero,if_neg (by simp),List.append_nil];exact(List.nodup_range).filter _
  obtain⟨rem0,hrem0⟩:∃r,r=eU es es.length:=⟨_,rfl⟩
  have hr0l:rem0.length=es.length:=by rw[hrem0];exact lG es _
  have hr0g:∀j<es.length,rem0.getD j 0=((es.getD j []).length:Int):=fun j hj=>by rw[hrem0];exact remF_get hj
  rw[←hL,←hrem0]
  obtain⟨Lh,hLh⟩:∃Lh:Nat→Nat,Lh=fun v=>(L v).length:=⟨_,rfl⟩
  have hLhe:∀v,Lh v=(L v).length:=fun v=>by rw[hLh]
  rw[←hLh]
  have q0:∀(rem:List Int) (tl:List B),(GH C0 es.length n rem Lh L tl)[0]?=some (B.cells [.lst 1 f (ws.map ac),.lst 1 g (es.map (Ln false))]):=fun rem tl=>by rw[GH_0,hC0]
  have q0g:∀(rem:List Int) (tl:List B) (h:0<(GH C0 es.length n rem Lh L tl).length),(GH C0 es.length n rem Lh L tl)[0]=B.cells [.lst 1 f (ws.map ac),.lst 1 g (es.map (Ln false))]:=fun rem tl h=>hC0
  have hgl0:(GH C0 es.length n rem0 Lh L []).length=n+4:=eM;have hga:=GH_app (C0:=C0) (E:=es.length) (n:=n) (rem:=rem0) (Lh:=Lh) (L:=L) (tl:=[]) (.buf 3 1 (nuL (kQ n 0)) false);rw[List.nil_append]at hga
  have hrbT:∀(tl:List (List Nat)),∀bl∈tl.map (fun l=>B.buf 3 1 (nuL l) false),rbB (n+4+(tl.map (fun l=>B.buf 3 1 (nuL l) false)).length) bl:=fun tl bl hb=>by
   obtain⟨l,_,rfl⟩:=List.mem_map.1 hb;exact(rbB_buf1 (cY l)).2 trivial
  have r4:∀(rem:List Int) (X:B) (tl:List B),(GH C0 es.length n rem Lh L (X::tl))[n+4]?=some X:=fun rem X tl=>GH_tl 0
  have hnl0:=(aw (kQ n 0)).trans (ordF_len n 0);refine wx ?_;simp -implicitDefEqProofs -dsimp[hbi,L1,LLn,Ln,ah];refine hQ _ _ _ ?_;simp -implicitDefEqProofs -dsimp[q0,q0g,hgl0,r4,hnl0,ordF_zero n,hga,←hnn,show(8:Int)*n≤281474976710656 by omega,show(n:Int)≤9223372036854775807 by omega,L1,LLn,Ln,ah]
  have hsl:∀(rem:List Int) (X:B) (l:List Nat) (tl:List B),(GH C0 es.length n rem Lh L (X::tl)).set (n+4) (.buf 3 1 (nuL l) false)=GH C0 es.length n rem Lh L (.buf 3 1 (nuL l) false::tl):=fun rem X l tl=>GH_SL X l
  refine aK (W_loopM 76 [12,68,69,70,71,72,73,74,75] (by simp[mB]<;>rfl) (σ:=Nat) (fun i=>i≤n) (fun i=>n-i) (fun i=>[(68,.int .i64 i)]) (fun i=>GH C0 es.length n rem0 Lh L [.buf 3 1 (nuL (kQ n i)) false]) 0 (by omega) (by simp) (by simp) (by intro i _;simp[GH]) ?_);intro i hi N2 Q2 hN2 hQ2;by_cases hbi2:i<n
  ·have hst:(nuL (kQ n i)).set i (.int .i64 (i:Int))=nuL (kQ n (i+1)):=(cR _ i i).trans (by rw[ordF_set]);have hnl:=(aw (kQ n i)).trans (ordF_len n i)
   have hat:=fun h=>bO (m:=kQ n i) (x:=i) h
   refine wx ?_;simp -implicitDefEqProofs -dsimp[hbi2,r4,hsl,hst,hnl,hat,L1,LLn,Ln,ah];simp -implicitDefEqProofs -dsimp[aM i (by omega),L1,LLn,Ln,ah];refine hN2 (i+1) _ _ (by omega) (by omega) (by simp) ⟨[],by simp⟩ (by simp[eM]) (GH_rb hrb0 (hrbT [_]))
  ·obtain rfl:n=i:=by omega
   rw[ordF_all];refine wx ?_;simp -implicitDefEqProofs -dsimp[hbi2,L1,LLn,Ln,ah];refine hQ2 _ _ _ ?_;simp -implicitDefEqProofs -dsimp[L1,LLn,Ln,ah]
   have hlt4:n+4<(GH C0 es.length n rem0 Lh L [.buf 3 1 (nuL (List.range n)) false]).length:=by rw[eM];simp
   have hrbS:=GH_rb (C0:=C0) (E:=es.length) (n:=n) (rem:=rem0) (Lh:=Lh) (L:=L) hrb0 (hrbT [List.range n]);simp only[List.map_cons,List.map_nil]at hrbS
   have hsort:=sortStable_h hlt4 hrbS (List.range n) n (by simp) (by omega) (.fn 140 [.ptr 0 0]) (by simp[rb,rb1,eM]) (fun a b=>ws.getD b 0-ws.getD a 0) (fun a b ha hbm l'=>by
    rw[List.mem_range]at ha hbm;rw[GH_SL];have wa:=(ak ws 0 (by omega:a<ws.length)).symm;have wb:=(ak ws 0 (by omega:b<ws.length)).symm;have ba:=hb.w a (by omega);have bb:=hb.w b (by omega);obtain⟨x,hx⟩:∃x,x=ws.getD a 0:=⟨_,rfl⟩;obtain⟨y,hy⟩:∃y,y=ws.getD b 0:=⟨_,rfl⟩;rw[←hx]at wa ba ⊢;rw[←hy]at wb bb ⊢;have hw:IntKind.i64.wrap (y-x)=y-x:=wrap64 (by omega) (by omega);have qq:=q0 rem0 [.buf 3 1 (nuL l') false];obtain⟨HH,hHH⟩:∃HH,HH=GH C0 es.length n rem0 Lh L [.buf 3 1 (nuL l') false]:=⟨_,rfl⟩;rw[←hHH]at qq ⊢;simp only[aV,List.cons_append,List.nil_append];refine aD tok Tryz.func140 rfl rfl ?_;refine wx ?_;simp -implicitDefEqProofs -dsimp[Tryz.f140,List.replicate,qq,wa,wb,hw,ac,show a<ws.length by omega,show b<ws.length by omega,L1,LLn,Ln,ah]
    exact .inr (aJ (by kernel_rfl)))
   simp only[GH_SL]at hsort;obtain⟨ord,hord⟩:∃ord,ord=isF (nb fun a b=>ws.getD b 0-ws.getD a 0) (n-1) 1 (List.range n):=⟨_,rfl⟩
   have hperm:ord.Perm (List.range n):=by
    rw[hord];by_cases h0:n=0
    ·subst h0;exact .refl _
    ·exact jR _ _ _ _ (by simp;omega)
   rw[←hord]at hsort;obtain⟨OUT,hOUT⟩:∃OUT,OUT=grF L ord rem0 []:=⟨_,rfl⟩
   have hGO:GF=isF ltN (OUT.length-1) 1 OUT:=by
    rw[hGF,hOUT,hord,hL,hrem0];unfold ip greedyO pS;rw[←hnn]
   have hol:ord.length=n:=by rw[hperm.length_eq];simp
   have hon:ord.Nodup:=hperm.nodup_iff.2 List.nodup_range
   have hom:∀v∈ord,v<n:=fun v hv=>List.mem_range.1 (hperm.mem_iff.1 hv)
   have hnl4:=(aw ord).trans hol;refine bJ hsort ?_;rintro _ _ rfl
   have hlen1:(GH C0 es.length n rem0 Lh L [.buf 3 1 (nuL ord) false]).length=n+5:=by rw[eM];rfl
   have hdnd:∀e∈es,e.Nodup:=fun e he=>(hed e he).2.1.imp (fun h=>by omega)
   have q2:∀(rem:List Int) (tl:List B),(GH C0 es.length n rem Lh L tl)[2]?=some (.cells [.buf 1 0 es.length es.length]):=fun rem tl=>GH_2
   have q1:∀(rem:List Int) (tl:List B),(GH C0 es.length n rem Lh L tl)[1]?=some (.buf 3 1 (inL rem) false):=fun rem tl=>GH_1
   have q3:∀(rem:List Int) (tl:List B),(GH C0 es.length n rem Lh L tl)[3]?=some (.buf 109 1 (atR n Lh) false):=fun rem tl=>GH_3
   have q1s:∀(rem rem':List Int) (tl:List B),(GH C0 es.length n rem Lh L tl).set 1 (.buf 3 1 (inL rem') false)=GH C0 es.length n rem' Lh L tl:=fun rem rem' tl=>GH_set1 rem'
   have r5:∀(rem:List Int) (X Y:B),(GH C0 es.length n rem Lh L [X,Y])[n+5]?=some Y:=fun rem X Y=>GH_tl 1
   have hsl2:∀(rem:List Int) (X Y:B) (l:List Nat),(GH C0 es.length n rem Lh L [X,Y]).set (n+5) (.buf 3 1 (nuL l) false)=GH C0 es.length n rem Lh L [X,.buf 3 1 (nuL l) false]:=fun rem X Y l=>GH_SL2 X Y l
   have hgl2:∀(rem:List Int) (X Y:B),(GH C0 es.length n rem Lh L [X,Y]).length=n+6:=fun rem X Y=>by rw[eM];rfl
   have hrb2:∀(rem:List Int) (l l':List Nat),∀bl∈GH C0 es.length n rem Lh L [.buf 3 1 (nuL l) false,.buf 3 1 (nuL l') false],rbB (GH C0 es.length n rem Lh L [.buf 3 1 (nuL l) false,.buf 3 1 (nuL l') false]).length bl:=fun rem l l'=>GH_rb hrb0 (hrbT [l,l'])
   have hga2:GH C0 es.length n rem0 Lh L [.buf 3 1 (nuL ord) false]++[B.buf 3 1 [] false]=GH C0 es.length n rem0 Lh L [.buf 3 1 (nuL ord) false,.buf 3 1 (nuL []) false]:=GH_app _;simp -implicitDefEqProofs -dsimp[r4,hnl4,L1,LLn,Ln,ah];refine aK (gG 3 1 [13] (by simp) (W_loopM 112 [13,15,17,78,81,82,83,84,85,86,87,88,89,90,91,92,93,94,95,96,97,98,99,100,101,102,103,104,105,106,107,108,109,110,111] (by simp[mB]<;>rfl) (σ:=Nat×List Int×List Nat) (fun p=>p.1≤n∧GI es ord p.1 p.2.1 p.2.2∧p.2.2.length≤p.1∧(∀j<es.length,p.2.1.getD j 0≤1000000)∧grF L (ord.drop p.1) p.2.1 p.2.2=OUT) (fun p=>n-p.1) (fun p=>[(81,.int .i64 p.1),(13,.buf (n+5) 0 p.2.2.length p.2.2.length)]) (fun p=>GH C0 es.length n p.2.1 Lh L [.buf 3 1 (nuL ord) false,.buf 3 1 (nuL p.2.2) false]) (0,rem0,[]) ⟨by simp,GI.start hed hperm hr0l hr0g,by simp,fun j hj=>by rw[hr0g j hj];have:=hel _ (eY hj);omega,by rw[List.drop_zero,hOUT]⟩ (by simp[hlen1]) (by rw[hga2]) (by intro p _;simp[eM]) ?_));rintro⟨p,rem,out⟩ ⟨hp,gi,hol2,hub,hgh⟩ N3 Q3 hN3 hQ3;simp only at hp gi hol2 hub hgh hN3;by_cases hbp:p<n
   ·have hpo:p<ord.length:=by omega
    have hvn:=hom ord[p] (List.getElem_mem hpo);have hkeep:=gi.keep hon hpo
    have hout:=fun rem'=>GI.out (rem':=rem') (L:=L ord[p]) gi hon hpo hdnd (hLm ord[p])
    have hato:=fun h=>bO (m:=ord) (x:=p) h
    rw[ak ord 0 hpo]at hato;obtain⟨v,hv⟩:∃v,v=ord[p]:=⟨_,rfl⟩;rw[List.drop_eq_getElem_cons hpo,←hv,grF]at hgh;rw[←hv]at hvn hkeep hout hato
    have hclo:∀j∈L v,aV Tryz.prog (.fn 142 [.ptr 2 0]) [.int .i64 (j:Int)] (GH C0 es.length n rem Lh L [.buf 3 1 (nuL ord) false,.buf 3 1 (nuL out) false]) fun r H'=>r = .bool (decide (rem.getD j 0=1))∧H'=GH C0 es.length n rem Lh L [.buf 3 1 (nuL ord) false,.buf 3 1 (nuL out) false]:=fun j hj=>by
     have hjl:=((hLm v j).1 hj).1;have a2:=q2 rem [.buf 3 1 (nuL ord) false,.buf 3 1 (nuL out) false];have a1:=q1 rem [.buf 3 1 (nuL ord) false,.buf 3 1 (nuL out) false];obtain⟨HH,hHH⟩:∃HH,HH=GH C0 es.length n rem Lh L [.buf 3 1 (nuL ord) false,.buf 3 1 (nuL out) false]:=⟨_,rfl⟩;rw[←hHH]at a1 a2 ⊢
     have hgl:=fun h=>ef (m:=rem) (x:=j) h
     have hll:=(ee rem).trans gi.len;obtain⟨z,hz⟩:∃z,z=rem.getD j 0:=⟨_,rfl⟩;rw[←hz]at hgl ⊢;simp only[aV,List.cons_append,List.nil_append];by_cases hq:z=1
     ·rw[decide_eq_true hq];refine aD tok Tryz.func142 rfl rfl ?_;refine wx ?_;simp -implicitDefEqProofs -dsimp[Tryz.f142,List.replicate,a1,a2,hgl,hll,hjl,hq,L1,LLn,Ln,ah]
     ·rw[decide_eq_false hq];refine aD tok Tryz.func142 rfl rfl ?_;refine wx ?_;simp -implicitDefEqProofs -dsimp[Tryz.f142,List.replicate,a1,a2,hgl,hll,hjl,hq,L1,LLn,Ln,ah]
    have hcl:=contFuncB (GH C0 es.length n rem Lh L [.buf 3 1 (nuL ord) false,.buf 3 1 (nuL out) false]) (v+4) (.fn 142 [.ptr 2 0]) (fun j=>decide (rem.getD j 0=1)) (L v) (Lh v) (hLhe v) (GH_v hvn) (by have:=hLl v;omega) (hrb2 rem ord out) (by simp[rb,rb1,eM]) hclo
    have ra:=fun h=>atR_get (n:=n) (Lh:=Lh) (v:=v) h
    have ral:=atR_len (n:=n) (Lh:=Lh);have hnlo:=aw out;have b3:=q3 rem [.buf 3 1 (nuL ord) false,.buf 3 1 (nuL out) false];have b4:=r4 rem (.buf 3 1 (nuL ord) false) [.buf 3 1 (nuL out) false];have b5:=r5 rem (.buf 3 1 (nuL ord) false) (.buf 3 1 (nuL out) false);have b5s:=hsl2 rem (.buf 3 1 (nuL ord) false) (.buf 3 1 (nuL out) false) (out++[v])
    obtain⟨any,hany⟩:∃any,any=(L v).any fun j=>decide (rem.getD j 0=1):=⟨_,rfl⟩
    rw[←hany]at hcl;refine wx ?_;simp -implicitDefEqProofs -dsimp[hbp,b3,b4,hnl4,hato,ra,ral,hvn,L1,LLn,Ln,ah];refine bJ hcl ?_;rintro _ _ ⟨rfl,rfl⟩;rw[←hany]at hgh
    cases any with
    | true =>
     rw[if_pos rfl]at hgh
     have hna:nuL out++[.int .i64 (v:Int)]=nuL (out++[v]):=by simp[nuL,eN]
     simp -implicitDefEqProofs -dsimp[b5,hnlo,hna,b5s,aM p (by omega),show out.length≤9223372036854775806 by omega,show(out.length+1)*8≤140737488355328 by omega,L1,LLn,Ln,ah];refine hN3 (p+1,rem,out++[v]) _ _ ⟨by simp only;omega,hkeep,by simp;omega,hub,hgh⟩ (by simp only;omega) (by simp) ⟨[],by simp⟩ (by simp[eM]) (hrb2 _ _ _)
    | false =>
     rw[if_neg (by simp)]at hgh
     have hany2:∀j∈L v,rem.getD j 0≠1:=fun j hj he=>by
      have:=List.any_eq_false.1 hany.symm j hj;rw[he]at this;exact this rfl
     have hnLv:(nuL (L v)).length=Lh v:=(aw (L v)).trans (hLhe v).symm
     have bv:∀rem',(GH C0 es.length n rem' Lh L [.buf 3 1 (nuL ord) false,.buf 3 1 (nuL out) false])[v+4]?=some (.buf 3 1 (nuL (L v)) false):=fun rem'=>GH_v hvn
     simp -implicitDefEqProofs -dsimp[b3,ra,ral,hvn,bv,hnLv,L1,LLn,Ln,ah];refine aK (W_loopM 111 [17,100,101,102,103,104,105,106,107,108,109,110] (by simp[mB]<;>rfl) (σ:=Nat×List Int) (fun q=>q.1≤Lh v∧q.2.length=es.length∧(∀j<es.length,q.2.getD j 0=rem.getD j 0-if j∈(L v).take q.1 then 1 else 0)∧((L v).drop q.1).foldl pn q.2=(L v).foldl pn rem) (fun q=>Lh v-q.1) (fun q=>[(100,.int .i64 q.1)]) (fun q=>GH C0 es.length n q.2 Lh L [.buf 3 1 (nuL ord) false,.buf 3 1 (nuL out) false]) (0,rem) ⟨by simp,gi.len,fun j _=>by simp,by rw[List.drop_zero]⟩ (by simp) (by simp) (by intro q _;simp[eM]) ?_);rintro⟨q,rm⟩ ⟨hq,hrl,hrg,hgq⟩ N4 Q4 hN4 hQ4;simp only at hq hrl hrg hgq hN4;by_cases hbq:q<Lh v
     ·have hql:q<(L v).length:=by rw[←hLhe v];exact hbq
      have hatq:=fun h=>bO (m:=L v) (x:=q) h
      rw[ak (L v) 0 hql]at hatq;have hjm:(L v)[q]∈L v:=List.getElem_mem hql
      have hnt:(L v)[q]∉(L v).take q:=fun hm=>by
       obtain⟨a,ha,he⟩:=List.mem_iff_getElem.1 hm;rw[List.getElem_take]at he
       have haq:a<q:=by rw[List.length_take]at ha;omega
       exact List.pairwise_iff_getElem.1 (hLn v) a q (by omega) hql haq he
      have htk:=List.take_succ_eq_append_getElem hql;obtain⟨j,hj⟩:∃j,j=(L v)[q]:=⟨_,rfl⟩;rw[List.drop_eq_getElem_cons hql,←hj,List.foldl_cons]at hgq;unfold pn at hgq;rw[←hj]at hatq hjm hnt htk;have hjl:=((hLm v j).1 hjm).1;have a2:=q2 rm [.buf 3 1 (nuL ord) false,.buf 3 1 (nuL out) false];have a1:=q1 rm [.buf 3 1 (nuL ord) false,.buf 3 1 (nuL out) false];have a1s:=q1s rm (rm.set j (rm.getD j 0-1)) [.buf 3 1 (nuL ord) false,.buf 3 1 (nuL out) false];have bvr:=bv rm
      have hgl:=fun h=>ef (m:=rm) (x:=j) h
      have hll:=(ee rm).trans hrl;have hst:=lV rm j (rm.getD j 0-1);have hz0:=hrg j hjl;rw[if_neg hnt]at hz0;have hz1:=gi.pos j hjl;have hz2:=hub j hjl;obtain⟨z,hz⟩:∃z,z=rm.getD j 0:=⟨_,rfl⟩;rw[←hz]at hgl hst a1s hz0 hgq;have hw1:IntKind.i64.wrap (z-1)=z-1:=wrap64 (by omega) (by omega);refine wx ?_;simp -implicitDefEqProofs -dsimp[hbq,bvr,hnLv,hatq,a2,a1,a1s,hgl,hll,hst,hjl,hw1,aM q (by have:=hLl v;have:=hLhe v;omega),L1,LLn,Ln,ah];refine hN4 (q+1,rm.set j (z-1)) _ _ ⟨by simp only;omega,by simp[hrl],fun i hi=>?_,hgq⟩ (by simp only;omega) (by simp) ⟨[],by simp⟩ (by simp[eM];omega) (hrb2 _ _ _);simp only;rw[htk];by_cases hij:j=i
      ·subst hij;rw[aX _ (by omega),if_pos (List.mem_append_right _ (List.mem_singleton.2 rfl)),hz0];omega
      ·rw[af _ hij,hrg i hi]
       have:(i∈(L v).take q++[j])↔i∈(L v).take q:=by
        rw[List.mem_append,List.mem_singleton];exact⟨fun h=>h.elim id (fun e=>absurd e.symm hij),.inl⟩
       simp only[this]
     ·obtain rfl:q=Lh v:=by omega
      have htk:(L v).take (Lh v)=L v:=List.take_of_length_le (by rw[hLhe v];exact Nat.le_refl _);rw[htk]at hrg;rw[List.drop_of_length_le (by rw[hLhe v];exact Nat.le_refl _),List.foldl_nil]at hgq;rw[←hgq]at hgh;have gi2:=hout rm hany2 hrl hrg;refine wx ?_;simp -implicitDefEqProofs -dsimp[hbq,L1,LLn,Ln,ah];refine hQ4 _ _ _ ?_;simp -implicitDefEqProofs -dsimp[aM p (by omega),L1,LLn,Ln,ah];refine hN3 (p+1,rm,out) _ _ ⟨by simp only;omega,gi2,by simp only;omega,fun j hj=>?_,hgh⟩ (by simp only;omega) (by simp) ⟨[],by simp⟩ (by simp[eM]) (hrb2 _ _ _);have:=hub j hj;simp only;rw[hrg j hj];split<;>omega
   ·obtain rfl:n=p:=by omega
    rw[List.drop_of_length_le (by omega)]at hgh;have hgo:out=OUT:=hgh
    have hlt5:n+5<(GH C0 es.length n rem Lh L [.buf 3 1 (nuL ord) false,.buf 3 1 (nuL out) false]).length:=by rw[hgl2];omega
    have hs:=sort_h hlt5 (hrb2 rem ord out) out out.length rfl (by omega);simp only[GH_SL2]at hs;obtain⟨res,hres⟩:∃res,res=isF ltN (out.length-1) 1 out:=⟨_,rfl⟩
    have hrl:out.length=res.length:=by
     rw[hres];by_cases h0:out.length=0
     ·rw[h0];exact h0.symm
     ·exact(jR ltN _ _ _ (by omega)).length_eq.symm
    have hresG:res=GF:=by rw[hGO,hres,hgo]
    rw[←hres]at hs;refine wx ?_;simp -implicitDefEqProofs -dsimp[hbp,L1,LLn,Ln,ah];refine hQ3 _ _ _ ?_;simp -implicitDefEqProofs -dsimp[L1,LLn,Ln,ah];refine bJ hs ?_;rintro _ _ rfl;simp -implicitDefEqProofs -dsimp[L1,LLn,Ln,ah];rw[←hresG];refine .tup _ _ rfl (fun i c d h1 h2=>?_)
    match i with
    | 0=>simp at h1 h2;subst h1;subst h2;exact iI (r5 rem _ _) (hrl.trans (aw res).symm) (fun x hx=>(cY res x hx).1)
    | 1=>simp at h1 h2;subst h1;subst h2;exact .pure _ (by simp)
    | i+2=>simp at h1
def wl(ws:List Int):List Nat→Int
 | []=>0
 | v::l=>ws.getD v 0+wl ws l
theorem mQ(ws:List Int):∀a b:List Nat,wl ws (a++b)=wl ws a+wl ws b
 | [],b=>by simp[wl]
 | v::a,b=>by rw[List.cons_append,wl,wl,mQ ws a b];omega
theorem gL(ws:List Int)(T:Nat→Bool):∀n,dX ws T n=wl ws ((List.range n).filter T)
 | 0=>rfl
 | n+1=>by
  rw[dX,List.range_succ,List.filter_append,mQ,gL ws T n,List.filter_cons,List.filter_nil];by_cases h:T n=true
  ·rw[if_pos h,if_pos h];simp[wl]
  ·rw[if_neg h,if_neg h];simp[wl]
theorem kW:∀l1 l2:List Nat,l1.Pairwise (· < ·)→l2.Pairwise (· < ·)→(∀x,x∈l1↔x∈l2)→l1=l2
 | [],[],_,_,_=>rfl
 | [],y::l2,_,_,h=>by have:=(h y).2 List.mem_cons_self;cases this
 | x::l1,[],_,_,h=>by have:=(h x).1 List.mem_cons_self;cases this
 | x::l1,y::l2,h1,h2,h=>by
  obtain⟨a1,a2⟩:=List.pairwise_cons.1 h1;obtain⟨b1,b2⟩:=List.pairwise_cons.1 h2;have hx:=(h x).1 List.mem_cons_self;have hy:=(h y).2 List.mem_cons_self
  have e:x=y:=by
   rcases List.mem_cons.1 hx with e | hx
   ·exact e
   ·rcases List.mem_cons.1 hy with e | hy
    ·exact e.symm
    ·have:=b1 x hx;have:=a1 y hy;omega
  subst e;congr 1;refine kW l1 l2 a2 b2 (fun z=>⟨fun hz=>?_,fun hz=>?_⟩)
  ·rcases List.mem_cons.1 ((h z).1 (List.mem_cons_of_mem _ hz)) with e | hz2
   ·subst e;have:=a1 z hz;omega
   ·exact hz2
  ·rcases List.mem_cons.1 ((h z).2 (List.mem_cons_of_mem _ hz)) with e | hz2
   ·subst e;have:=b1 z hz;omega
   ·exact hz2
theorem gY{n:Nat}{l:List Nat}(hs:l.Pairwise (· < ·))(hn:∀v∈l,v<n):l=(List.range n).filter fun v=>decide (v∈l):=by
 refine kW _ _ hs (List.pairwise_lt_range.filter _) (fun x=>?_);rw[List.mem_filter,List.mem_range,decide_eq_true_iff];exact⟨fun h=>⟨hn x h,h⟩,fun h=>h.2⟩
theorem wl_le{ws:List Int}{n:Nat}(hw:∀v<n,1≤ws.getD v 0∧ws.getD v 0≤1000000):∀l:List Nat,(∀v∈l,v<n)→0≤wl ws l∧wl ws l≤1000000*(l.length:Int)
 | [],_=>by simp[wl]
 | v::l,h=>by
  have h1:=wl_le hw l (fun u hu=>h u (List.mem_cons_of_mem _ hu));have h2:=hw v (h v List.mem_cons_self);rw[wl,List.length_cons];omega
theorem index_I(e:List Nat)(v:Nat)(fe:Bool)(hl:e.length≤1000000):aS Tryz.prog 186 [Ln fe e,.int .i64 (v:Int)] fun r=>r = .int .i64 (ixN (fun u=>decide (u=v)) e 0):=by
 refine aC (aD tok Tryz.func186 rfl rfl ?_);refine wx ?_;simp -implicitDefEqProofs -dsimp[Tryz.f186,List.replicate,Ln];refine aK (W_loopM 19 [4,5,8,9,10,11,12,13,14,15,16,17,18] (by simp[mB]<;>rfl) (σ:=Nat) (fun i=>ixN (fun u=>decide (u=v)) e i=ixN (fun u=>decide (u=v)) e 0) (fun i=>e.length-i) (fun i=>[(8,.int .i64 i)]) (fun _=>[]) 0 rfl (by simp) rfl (by simp) ?_);intro i hx N Q hN hQ;by_cases hb:i<e.length
 ·rw[ixN,dif_pos hb]at hx;obtain⟨u,hu⟩:∃u,u=e[i]:=⟨_,rfl⟩;rw[←hu]at hx;have hu':=hu.symm;by_cases hq:u=v
  ·rw[if_pos (decide_eq_true hq)]at hx;refine wx ?_;simp -implicitDefEqProofs -dsimp[hb,hu',eN,hq];refine hQ _ _ _ ?_;simp -implicitDefEqProofs -dsimp[];simpa using hx
  ·rw[if_neg (by simp[hq])]at hx;refine wx ?_;simp -implicitDefEqProofs -dsimp[hb,hu',eN,show ¬(v:Int)=u by omega,show ¬v=u by omega,aM i (by omega)];refine hN (i+1) _ _ hx (by omega) (by simp) ⟨[],rfl⟩ (by simp) (by simp)
 ·rw[ixN,dif_neg hb]at hx;refine wx ?_;simp -implicitDefEqProofs -dsimp[hb];refine hQ _ _ _ ?_;simp -implicitDefEqProofs -dsimp[];simpa using hx
theorem contains_I(e:List Nat)(v:Nat)(fe:Bool)(hl:e.length≤1000000):aS Tryz.prog 144 [Ln fe e,.int .i64 (v:Int)] fun r=>r = .bool (decide (v∈e)):=by
 have h0:=ixN_any (fun u=>decide (u=v)) e 0;rw[List.drop_zero]at h0
 have h1:(e.any fun u=>decide (u=v))=decide (v∈e):=by
  rw[Bool.eq_iff_iff];simp
 rw[h1]at h0;have hc:=index_I e v fe hl;refine aC (aD tok Tryz.func144 rfl rfl ?_);refine wx ?_;simp -implicitDefEqProofs -dsimp[Tryz.f144,List.replicate];refine(aG (hc) (by simp)).mono ?_;rintro r H' ⟨rfl,rfl⟩;simp -implicitDefEqProofs -dsimp[];exact decide_eq_decide.1 h0
theorem weight_u{ws:List Int}{es:List (List Nat)}(hb:HsB ws es)(f g fl:Bool)(l:List Nat)(hs:l.Pairwise (· < ·))(hn:∀v∈l,v<ws.length):aS Tryz.prog 104 [ah f g ws es,Ln fl l] fun r=>r = .tup [.int .i64 (wl ws l),.int .i64 0]:=by
 have hel:∀e∈es,e.length≤1000000:=fun e he=>by have:=hb.ed.len e he;have:=hb.n;omega
 have cv:=lW ws es f g hel;rw[eT.2 hb]at cv;have hn2:=hb.n
 have hll:l.length≤200:=by
  have hnd:l.Nodup:=hs.imp (fun h=>by omega);have:=hnd.length_le_of_subset (l₂:=List.range ws.length) (fun v hv=>List.mem_range.2 (hn v hv));simp at this;omega
 simp only[ah,L1,LLn]at cv;refine aC (aD tok Tryz.func104 rfl rfl ?_);refine wx ?_;simp -implicitDefEqProofs -dsimp[Tryz.f104,List.replicate,ah,L1,LLn,Ln];refine(aG (cv) (by simp)).mono ?_;rintro r H' ⟨rfl,rfl⟩;simp -implicitDefEqProofs -dsimp[L1,LLn,Ln];refine aK (W_loopM 46 [4,5,7,8,9,17,18,19,20,21,22,23,24,25,26,27,28,29,30,31,32,33,34,35,36,37,38,39,40,41,42,43,44,45] (by simp[mB]<;>rfl) (σ:=Nat) (fun i=>i≤l.length) (fun i=>l.length-i) (fun i=>[(17,.int .i64 i),(7,.int .i64 (wl ws (l.take i)))]) (fun _=>[B.cells [.lst 1 f (ws.map ac),.lst 1 g (es.map (Ln false))]]) 0 (by omega) (by simp[wl]) rfl (by simp) ?_);intro i hi N Q hN hQ;by_cases hbi:i<l.length
 ·have hvn:=hn l[i] (List.getElem_mem hbi);have hnd:l.Nodup:=hs.imp (fun h=>by omega);have hnt:=(pA hnd hbi).1
  have htk:wl ws (l.take (i+1))=wl ws (l.take i)+ws.getD l[i] 0:=by rw[List.take_succ_eq_append_getElem hbi,mQ];simp[wl]
  have hb1:=wl_le hb.w (l.take i) (fun v hv=>hn v (List.mem_of_mem_take hv))
  have hlt:(l.take i).length≤200:=by rw[List.length_take];omega
  obtain⟨v,hv⟩:∃v,v=l[i]:=⟨_,rfl⟩;rw[←hv]at hvn hnt htk;have hv':=hv.symm
  have hc:=fun fl=>contains_I (l.take i) v fl (by omega)
  rw[decide_eq_false hnt]at hc;simp only[Ln,List.map_take]at hc;have hwl:=(ak ws 0 hvn).symm;have hwb:=hb.w v hvn;obtain⟨w,hw⟩:∃w,w=ws.getD v 0:=⟨_,rfl⟩;rw[←hw]at hwl hwb htk;obtain⟨s,hs0⟩:∃s,s=wl ws (l.take i):=⟨_,rfl⟩;rw[←hs0]at htk hb1;have hw1:IntKind.i64.wrap (s+w)=s+w:=wrap64 (by omega) (by omega);rw[←hs0];refine wx ?_;simp -implicitDefEqProofs -dsimp[hbi,hv',eN,hvn,show ¬(v:Int)<0 by omega,show ¬(ws.length:Int)≤v by omega,show ¬ws.length≤v by omega,show i≤l.length by omega,L1,LLn,Ln];refine(aG (hc _) (by simp;intro x hx;obtain⟨y,_,rfl⟩:=List.mem_map.1 (List.mem_of_mem_take hx);exact eN_pure y)).mono ?_;rintro r H' ⟨rfl,rfl⟩;simp -implicitDefEqProofs -dsimp[hvn,hwl,ac,hw1,aM i (by omega),L1,LLn,Ln];refine hN (i+1) _ _ (by omega) (by omega) (by simp[htk]) ⟨[],rfl⟩ (by simp) (by simp)
 ·obtain rfl:i=l.length:=by omega
  rw[List.take_length];refine wx ?_;simp -implicitDefEqProofs -dsimp[hbi,L1,LLn,Ln];refine hQ _ _ _ ?_;simp -implicitDefEqProofs -dsimp[L1,LLn,Ln]
structure MinOk (n:Nat) (ws:List Int) (es:List (List Nat)) (T:Nat→Bool):Prop where
 h:∀e∈es,∃v∈e,T v=true
 m:∀T':Nat→Bool,(∀e∈es,∃v∈e,T' v=true)→dX ws T n≤dX ws T' n
theorem lJ(n:Nat)(T:Nat→Bool)(ws:List Int):∀j,phi (List.replicate n 0) T ws j=dX ws T j
 | 0=>rfl
 | j+1=>by
  have h0:(List.replicate n 0).getD j 0=0:=by
   simp only[List.getD,List.getElem?_replicate];split<;>rfl
  rw[phi,dX,lJ n T ws j,h0];by_cases h:T j=true<;>simp[h]
theorem wsum_zero(n:Nat)(ws:List Int):∀j,dX ws (fun u=>decide ((List.replicate n 0).getD u 0=1)) j=0
 | 0=>rfl
 | j+1=>by
  have h0:(List.replicate n 0).getD j 0=0:=by
   simp only[List.getD,List.getElem?_replicate];split<;>rfl
  rw[dX,wsum_zero n ws j,h0];simp
theorem fU(n:Nat):db (List.replicate n 0)=n:=by
 unfold db;rw[List.countP_replicate];simp
theorem min_all{ws:List Int}{es:List (List Nat)}(hb:HsB ws es){lf:Int}(hlf:2^(ws.length+1)-1≤lf){l:List Nat}(hl:GrOk ws.length es l):
  ∃P T,mb ws es (ws.length+1) (List.replicate ws.length 0) lf ⟨l,wl ws l⟩ 0=some P∧lf-(2^(ws.length+1)-1)≤P.1∧MinOk ws.length ws es T∧P.2.l=(List.range ws.length).filter T∧P.2.w=dX ws T ws.length:=by
 have h0:∀v,(List.replicate ws.length 0).getD v 0=0:=fun v=>by
  simp only[List.getD,List.getElem?_replicate];split<;>rfl
 have g:Wok ws.length ws (List.replicate ws.length 0):=⟨rfl,by simp,fun v hv=>(hb.w v hv).1,fun v _=>by rw[h0];omega⟩;obtain⟨lf',b',m1,m2,m3,m4,m5⟩:=min_ok hb.ed (ws.length+1) (List.replicate ws.length 0) lf ⟨l,wl ws l⟩ 0 g (by rw[fU];omega) (by rw[fU];exact hlf) (by rw[wsum_zero]);rw[fU]at m2
 have hall:∀T':Nat→Bool,(∀e∈es,∃v∈e,T' v=true)→b'.w≤dX ws T' ws.length:=fun T' hT=>by
  have hX:Ext ws.length es (List.replicate ws.length 0) T':=⟨fun v _ h=>by rw[h0]at h;omega,fun v _ h=>by rw[h0]at h;omega,hT⟩;have:=m4 T' hX;rw[lJ]at this;omega
 rcases m5 with rfl | ⟨T,hT⟩
 ·refine⟨_,fun v=>decide (v∈l),m1,m2,⟨fun e he=>?_,fun T' hT'=>?_⟩,gY hl.s hl.n,?_⟩
  ·obtain⟨v,h1,h2⟩:=hl.h e he;exact⟨v,h1,by simpa using h2⟩
  ·have:=hall T' hT';rw[gL,←gY hl.s hl.n];exact this
  ·rw[gL,←gY hl.s hl.n]
 ·refine⟨_,T,m1,m2,⟨hT.h,fun T' hT'=>?_⟩,hT.l,hT.w⟩;have:=hall T' hT';rw[hT.w]at this;exact this
noncomputable def lO(ws:List Int)(es:List (List Nat))(lf:Int):List Nat:=match mb ws es (ws.length+1) (List.replicate ws.length 0) lf ⟨ip ws es,wl ws (ip ws es)⟩ 0 with
 | some P=>P.2.l
 | none=>[]
theorem minL_ok{ws:List Int}{es:List (List Nat)}(hb:HsB ws es)(hn:ws.length≤12){lf:Int}(hlf:2^(ws.length+1)-1≤lf):∃T,MinOk ws.length ws es T∧lO ws es lf=(List.range ws.length).filter T:=by
 obtain⟨P,T,m1,m2,m3,m4,m5⟩:=min_all hb hlf (pR hb hn);refine⟨T,m3,?_⟩;unfold lO;rw[m1];exact m4
def PL(ws:List Int)(es:List (List Nat))(lf:Int)(r:V):Prop:=∃fl,r = .tup [.lst 1 fl ((lO ws es lf).map eN),.int .i64 (wl ws (lO ws es lf)),.int .i64 0]
theorem minimum_u{ws:List Int}{es:List (List Nat)}(hb:HsB ws es)(f g:Bool)(hn:ws.length≤12)(lf:Int)(hlf:2^(ws.length+1)-1≤lf)(h1:1≤lf)(h2:lf≤9000000000000000000):
  aS Tryz.prog 64 [ah f g ws es,.int .i64 lf] (PL ws es lf):=by
 have hgr:=pR hb hn;have cg:=greedy_u hb f g hn;have hn2:=hb.n;simp only[ah,L1,LLn,Ln]at cg;refine aC (aD tok Tryz.func64 rfl rfl ?_);refine wx ?_;simp -implicitDefEqProofs -dsimp[Tryz.f64,List.replicate,ah,L1,LLn,Ln];obtain⟨l,hle⟩:∃l,l=ip ws es:=⟨_,rfl⟩;rw[←hle]at cg hgr;have hl:=hgr;refine(aG (cg) (by simp)).mono ?_;rintro r H' ⟨rfl,rfl⟩;have cw:=weight_u hb f g false l hl.s hl.n;obtain⟨P,T,m1,m2,m3,m4,m5⟩:=min_all hb hlf hl
 have hML:lO ws es lf=P.2.l:=by unfold lO;rw[←hle,m1]
 have hMw:P.2.w=wl ws P.2.l:=by rw[m4,m5,gL]
 have c1:=jQ [B.cells [.lst 1 f (ws.map ac),.lst 1 g (es.map (Ln false))],B.cells [.lst 1 false (l.map eN),.int .i64 (wl ws l)]] f g ws es lf hb.n
 have hr0:∀bl∈[B.cells [.lst 1 f (ws.map ac),.lst 1 g (es.map (Ln false))],B.cells [.lst 1 false (l.map eN),.int .i64 (wl ws l)]],rbB [B.cells [.lst 1 f (ws.map ac),.lst 1 g (es.map (Ln false))],B.cells [.lst 1 false (l.map eN),.int .i64 (wl ws l)]].length bl:=by
  intro bl hbl;simp only[List.mem_cons,List.not_mem_nil,or_false]at hbl
  rcases hbl with rfl | rfl
  ·intro c hc;simp only[List.mem_cons,List.not_mem_nil,or_false]at hc
   rcases hc with rfl | rfl
   ·exact cG (L1_pure f ws) rfl
   ·exact cG (LLn_pure g es) rfl
  ·exact bcl_rb _ false ⟨l,wl ws l⟩
 have sa:=nsH_at hr0 f g ws es lf;have o:BOk (nsH [B.cells [.lst 1 f (ws.map ac),.lst 1 g (es.map (Ln false))],B.cells [.lst 1 false (l.map eN),.int .i64 (wl ws l)]] f g ws es lf) 4 3 1:=⟨by simp[nsH],by simp[nsH],by simp[nsH],by omega,by omega,by omega,sa.rb⟩;have hp1:(0:Int)≤2^(ws.length+1):=Int.le_of_lt (Int.pow_pos (by omega));have c2:=minimum_h (f:=f) (g:=g) o hb (ws.length+1) (List.replicate ws.length 0) lf ⟨l,wl ws l⟩ false 0 P (by simp) m1 (by omega) h2 (by omega) (by omega);have hH:HS (nsH [B.cells [.lst 1 f (ws.map ac),.lst 1 g (es.map (Ln false))],B.cells [.lst 1 false (l.map eN),.int .i64 (wl ws l)]] f g ws es lf) 4 3 1 f g ws es lf (List.replicate ws.length 0) (bcl false ⟨l,wl ws l⟩)=nsH [B.cells [.lst 1 f (ws.map ac),.lst 1 g (es.map (Ln false))],B.cells [.lst 1 false (l.map eN),.int .i64 (wl ws l)]] f g ws es lf:=rfl;rw[hH]at c2;simp only[ah,L1,LLn,Ln]at cw;simp only[ah,L1,LLn]at c1;simp -implicitDefEqProofs -dsimp[show ¬lf<1 by omega,L1,LLn,Ln];refine(aG (cw) (by simp)).mono ?_;rintro r H' ⟨rfl,rfl⟩;simp -implicitDefEqProofs -dsimp[L1,LLn,Ln];refine bJ c1 ?_;rintro _ _ ⟨rfl,rfl⟩;simp -implicitDefEqProofs -dsimp[L1,LLn,Ln];refine bJ c2 ?_;rintro _ _ ⟨rfl,fl,rfl⟩;have gB:(HS (nsH [B.cells [.lst 1 f (ws.map ac),.lst 1 g (es.map (Ln false))],B.cells [.lst 1 false (l.map eN),.int .i64 (wl ws l)]] f g ws es lf) 4 3 1 f g ws es P.1 (List.replicate ws.length 0) (bcl fl P.2))[1]?=some (.cells [.lst 1 fl (P.2.l.map eN),.int .i64 P.2.w]):=o.atb;simp -implicitDefEqProofs -dsimp[gB,L1,LLn,Ln];refine .inr ⟨aJ (by kernel_rfl),?_⟩;exact⟨fl,by rw[hML,hMw]⟩
section
theorem enough_meets{t:Tb}{fds:List Fd}{L K:List Cr}(hL:Okq (aW t fds L))(hc:∀c∈L,c∈aa t)(hK:Nec t fds K):∃c∈K,c∈L:=by
 refine Classical.byContradiction fun h=>hK (okq_mono (fun c hcl=>?_) hL)
 exact cP.2 ⟨hc c hcl,fun hk=>h ⟨c,hk,hcl⟩⟩
def dW(vs:List Cr)(v:Nat):Cr:=vs.getD v ⟨0,0⟩
open Classical in
noncomputable def bu(vs:List Cr)(K:List Cr):List Nat:=(List.range vs.length).filter fun v=>decide (dW vs v∈K)
theorem iK{vs K:List Cr}{v:Nat} : v∈bu vs K↔v<vs.length∧dW vs v∈K:=by
 unfold bu;rw[List.mem_filter,List.mem_range];simp
def ab(n:Nat):List Int:=List.replicate n 1
theorem wl_ones(n:Nat):∀l:List Nat,(∀v∈l,v<n)→wl (ab n) l=l.length
 | [],_=>rfl
 | v::l,h=>by
  rw[wl,wl_ones n l (fun u hu=>h u (List.mem_cons_of_mem _ hu)),List.length_cons]
  have:(ab n).getD v 0=1:=by
   unfold ab;rw[ak _ _ (by simpa using h v List.mem_cons_self)];simp
  rw[this];omega
theorem wsum_ones(n:Nat)(T:Nat→Bool):dX (ab n) T n=(((List.range n).filter T).length:Nat):=by
 rw[gL,wl_ones n _ (fun v hv=>List.mem_range.1 (List.mem_filter.1 hv).1)]
def dV(vs:List Cr)(T:Nat→Bool):List Cr:=((List.range vs.length).filter T).map (dW vs)
theorem pz{vs:List Cr}{T:Nat→Bool}{c:Cr} : c∈dV vs T↔∃v,v<vs.length∧T v=true∧dW vs v=c:=by
 unfold dV;rw[List.mem_map];constructor
 ·rintro⟨v,h1,h2⟩;rw[List.mem_filter,List.mem_range]at h1;exact⟨v,h1.1,h1.2,h2⟩
 ·rintro⟨v,h1,h2,h3⟩;exact⟨v,List.mem_filter.2 ⟨List.mem_range.2 h1,h2⟩,h3⟩
theorem cAtD_inj{vs:List Cr}(hn:vs.Nodup){a b:Nat}(ha:a<vs.length)(hb:b<vs.length)(h:dW vs a=dW vs b):a=b:=by
 unfold dW at h;rw[ak _ _ ha,ak _ _ hb]at h
 rcases Nat.lt_trichotomy a b with h1 | h1 | h1
 ·exact absurd h (List.pairwise_iff_getElem.1 hn a b ha hb h1)
 ·exact h1
 ·exact absurd h.symm (List.pairwise_iff_getElem.1 hn b a hb ha h1)
theorem kA{α β:Type}{f:α→β} : ∀{l:List α},l.Nodup→(∀a∈l,∀b∈l,f a=f b→a=b)→(l.map f).Nodup
 | [],_,_=>by simp
 | a::l,hn,hi=>by
  obtain⟨h1,h2⟩:=List.nodup_cons.1 hn;rw[List.map_cons,List.nodup_cons];refine⟨fun hm=>?_,kA h2 (fun x hx y hy=>hi x (List.mem_cons_of_mem _ hx) y (List.mem_cons_of_mem _ hy))⟩;obtain⟨b,hb,he⟩:=List.mem_map.1 hm;have:=hi a List.mem_cons_self b (List.mem_cons_of_mem _ hb) he.symm;subst this;exact h1 hb
theorem core_new{t:Tb}{fds:List Fd}{vs:List Cr}{cores:List (List Cr)}(hsub:∀K∈cores,∀c∈K,c∈vs){T:Nat→Bool}(hT:∀e∈cores.map (bu vs),∃v∈e,T v=true){K:List Cr}(hK:∀c∈K,c∉dV vs T):K∉cores:=by
 intro hm;obtain⟨v,h1,h2⟩:=hT _ (List.mem_map.2 ⟨K,hm,rfl⟩);obtain⟨h3,h4⟩:=iK.1 h1;exact hK _ h4 (pz.2 ⟨v,h3,h2,rfl⟩)
end
theorem begin2(t:Tb)(ff gg cf:Bool)(fds:List Fd)(cells:List Cr)(hv:TbV t)(hs:aZ cells)(hcl:cells.length≤1000000)(b0 b1:B)(hb:∀bl∈[b0,b1],rbB 1 bl):
  az Tryz.prog 51 [aF ff gg t,LC cf cells] [b0,b1] fun r' H'=>r' = .ptr 3 0∧H'=gn [b0,b1] ff gg t (aW t fds cells).K:=by
 have hm:=hv.rows;have hn:=hv.attrs;obtain⟨K,hKe⟩:∃K,K=(aW t fds cells).K:=⟨_,rfl⟩;rw[←hKe];obtain⟨n,hne⟩:∃n,n=t.attrs.length:=⟨_,rfl⟩;obtain⟨m,hme⟩:∃m,m=t.rows.length:=⟨_,rfl⟩;have hne':=hne.symm;have hme':=hme.symm;rw[hne']at hn;rw[hme']at hm
 have hb0:∀k,1≤k→rbB k b0:=fun k hk=>ej hk (hb _ (by simp))
 have hb1:∀k,1≤k→rbB k b1:=fun k hk=>ej hk (hb _ (by simp))
 refine aD tok Tryz.func51 rfl rfl ?_;refine wx ?_;simp -implicitDefEqProofs -dsimp[Tryz.f51,List.replicate,aF,LS,LR,hne',hme'];refine aK (co 3 1 [] 3 [1] rfl (fI _ _) (by simp) (co 113 1 [] 3 [2] rfl (fI _ _) (by simp) (W_loopM 77 [7,8,9,10,19,20,21,22,23,24,25,26,27,28,29,30,31,32,33,34,35,36,37,38,39,40,41,42,43,44,45,46,47,48,49,50,51,52,53,54,55,56,57,58,59,60,61,62,63,64,65,66,67,68,69,70,71,72,73,74,75,76] (by simp[mB]<;>rfl) (σ:=Nat×Nat) (fun p=>p.1≤m∧p.2=p.1*n) (fun p=>m-p.1) (fun p=>[(19,.int .i64 p.1)]) (fun p=>[b0,b1,B.cells [.str t.name,.lst 1 ff (t.attrs.map V.str),.lst 2 gg (t.rows.map aN)],B.cells [.int .i64 n,.buf 4 0 p.2 p.2,.buf 5 0 p.2 p.2],B.buf 3 1 (paR p.2) false,B.buf 113 1 (knL K p.2) false]) (0,0) ⟨by simp,by simp⟩ (by simp) (by simp[paR_zero,knL_zero]) (by simp) ?_)));rintro⟨i,c⟩ ⟨hi,hc⟩ N Q hN hQ;simp only at hi hc hN;by_cases hib:i<m
 ·have hit:i<t.rows.length:=by omega
  obtain⟨rw,hrw⟩:∃rw,rw=t.rows[i]:=⟨_,rfl⟩;have hrw':=hrw.symm
  have hvl:rw.vals.length=n:=by rw[hrw,hne];exact hv.len _ (List.getElem_mem hit)
  refine wx ?_;simp -implicitDefEqProofs -dsimp[hib,hrw',aN,hit,LV,hne'];refine aK (W_loopM 76 [8,9,10,26,27,28,29,30,31,32,33,34,35,36,37,38,39,40,41,42,43,44,45,46,47,48,49,50,51,52,53,54,55,56,57,58,59,60,61,62,63,64,65,66,67,68,69,70,71,72,73,74,75] (by simp[mB]<;>rfl) (σ:=Nat×Nat) (fun p=>p.1≤n∧p.2=i*n+p.1) (fun p=>n-p.1) (fun p=>[(26,.int .i64 p.1)]) (fun p=>[b0,b1,B.cells [.str t.name,.lst 1 ff (t.attrs.map V.str),.lst 2 gg (t.rows.map aN)],B.cells [.int .i64 n,.buf 4 0 p.2 p.2,.buf 5 0 p.2 p.2],B.buf 3 1 (paR p.2) false,B.buf 113 1 (knL K p.2) false,B.cells [.int .i64 rw.id,.lst 3 false (rw.vals.map am)]]) (0,c) ⟨by simp,by simp[hc]⟩ (by simp) (by simp) (by simp) ?_);rintro⟨a,c2⟩ ⟨ha,hc2⟩ N2 Q2 hN2 hQ2;simp only at ha hc2 hN2;by_cases hab:a<n
  ·have hlt:=bB hib hab;have hbig:m*n≤1000*16:=Nat.mul_le_mul hm hn;have hpl:=paR_len c2;have hkl:=lS K c2;have hps:=paR_succ c2;have hks:=knL_succ K c2
   have hat:bN t (i*n+a)=⟨rw.id,(a:Int)⟩:=by
    rw[hne,gS t (hne▸hab),bF hit,←hrw]
   have hvt:bL t (i*n+a)=vAt rw.vals a:=by
    rw[hne,fD t (hne▸hab),bF hit,←hrw]
   have hbs:=iR cells ⟨rw.id,(a:Int)⟩ cf hcl;simp only[aO]at hbs;have hmem:=mM hs ⟨rw.id,(a:Int)⟩;have hcap:=cap8 c2 (by omega)
   cases hq:bsF cells ⟨rw.id,(a:Int)⟩ with
   | true =>
    rw[hq]at hbs
    have hKc:K c2=none:=by rw[hKe,hc2];exact lI (by rw[hat];exact hmem.1 hq)
    rw[hKc]at hks;refine wx ?_;simp -implicitDefEqProofs -dsimp[hab];refine aK (ai tok mixed [11,14] [(0,[1])] [] (by kernel_rfl) fun C K hC hK=>?_);simp -implicitDefEqProofs [hpl,hcap];refine hK _ _ ?_;simp -implicitDefEqProofs -dsimp[];refine(aG (hbs) (by simp)).mono ?_;rintro r H' ⟨rfl,rfl⟩;simp -implicitDefEqProofs -dsimp[hkl,hcap,aM a (by omega),fK];refine hN2 (a+1,c2+1) _ _ ⟨by simp only;omega,by simp only;omega⟩ (by simp only;omega) (by simp) ⟨[],by simp[hps,hks,fK]⟩ (by simp[LC]) (by simp[↓hb0,↓hb1])
   | false =>
    rw[hq]at hbs
    have hKc:K c2=some (vAt rw.vals a):=by rw[hKe,hc2,←hvt];exact fT (by rw[hat];exact fun h=>by rw[hmem.2 h]at hq;cases hq)
    rw[hKc]at hks
    have hva:a<rw.vals.length:=by omega
    have hvi:=gV hva;rw[hvi]at hks;refine wx ?_;simp -implicitDefEqProofs -dsimp[hab];refine aK (ai tok mixed [11,14] [(0,[1])] [] (by kernel_rfl) fun C K hC hK=>?_);simp -implicitDefEqProofs [hpl,hcap];refine hK _ _ ?_;simp -implicitDefEqProofs -dsimp[];refine(aG (hbs) (by simp)).mono ?_;rintro r H' ⟨rfl,rfl⟩;simp -implicitDefEqProofs -dsimp[];refine aK (ai tok mixed [10,13] [(0,[1])] [] (by kernel_rfl) fun C K hC hK=>?_);simp -implicitDefEqProofs [hkl,hcap,hva,am,fK];refine hK _ _ ?_;simp -implicitDefEqProofs -dsimp[aM a (by omega)];refine hN2 (a+1,c2+1) _ _ ⟨by simp only;omega,by simp only;omega⟩ (by simp only;omega) (by simp) ⟨[],by simp[hps,hks,fK]⟩ (by simp[LC]) (by simp[↓hb0,↓hb1])
  ·have hae:a=n:=by omega
   subst hae;refine wx ?_;simp -implicitDefEqProofs -dsimp[hab];refine hQ2 _ _ _ ?_;simp -implicitDefEqProofs -dsimp[aM i (by omega)];refine hN (i+1,c2) _ _ ⟨by simp only;omega,by simp only;rw[hc2,Nat.add_mul];omega⟩ (by simp only;omega) (by simp) ⟨_,rfl⟩ (by simp[LC]) (by simp[↓hb0,↓hb1])
 ·have hie:i=m:=by omega
  subst hie;refine wx ?_;simp -implicitDefEqProofs -dsimp[hib];refine hQ _ _ _ ?_;simp -implicitDefEqProofs -dsimp[];simp[gn,LS,LR,←hme,←hne,hc]
section
structure GenS (q:Prob) (c:Nat→Dm):Prop where
 sol:Sol q c
 gen:∀σ,Sol q σ→∃τ:Nat→Dm,∀x,x<q.m*q.n→σ x=app τ (c x)
theorem GenS.eq_iff{q:Prob}{c:Nat→Dm}(h:GenS q c){x y:Nat}(hx:x<q.m*q.n)(hy:y<q.m*q.n):c x=c y↔∀σ,Sol q σ→σ x=σ y :=
 ⟨fun he σ hs=>by
  obtain⟨τ,ht⟩:=h.gen σ hs
  rw[ht x hx,ht y hy,he],fun hf=>hf c h.sol⟩
theorem GenS.val_iff{q:Prob}{c:Nat→Dm}(h:GenS q c){x:Nat}{v:Vl}(hx:x<q.m*q.n):c x = .inl v↔∀σ,Sol q σ→σ x = .inl v :=
 ⟨fun he σ hs=>by
  obtain⟨τ,ht⟩:=h.gen σ hs
  rw[ht x hx,he];rfl,fun hf=>hf c h.sol⟩
theorem GenS.out{q:Prob}{c c':Nat→Dm}(h:GenS q c)(g:GenS q c')(u:Int→Bool){x:Nat}(hx:x<q.m*q.n):ka u c x=ka u c' x :=
 out_eq (N:=q.m*q.n) (fun _ _ hx hy=>(h.eq_iff hx hy).trans (g.eq_iff hx hy).symm) (fun _ _ hx=>(h.val_iff hx).trans (g.val_iff hx).symm) u hx
theorem Frt.gen{q:Prob}{P:List Nat}{r h:Nat→Nat}(f:Frt q P r h)(hc:eO q r):GenS q (eA q r):=by
 refine⟨f.sol hc,fun σ hσ=>⟨σ,fun x hx=>?_⟩⟩;unfold eA;rw[f.sem σ hσ x hx]
 cases hk:q.K (r x) with
 | some v=>exact hσ.fix _ v (f.lt x hx) hk
 | none=>rfl
open Classical in
noncomputable def genC(q:Prob):Nat→Dm:=if h:∃c,GenS q c then h.choose else fun _=>.inr 0
theorem genC_ok{q:Prob}{c:Nat→Dm}(h:GenS q c):GenS q (genC q):=by
 have hex:∃c,GenS q c:=⟨c,h⟩;unfold genC;rw[dif_pos hex];exact hex.choose_spec
def mS(t:Tb)(k:Int):Bool:=(List.range (t.rows.length*t.attrs.length)).any fun y=>decide ((bL t y).k=3)&&decide ((bL t y).n=k)
noncomputable def jY(t:Tb)(c:Nat→Dm)(i:Nat):Rw:=⟨(cI t i).id,(List.range t.attrs.length).map fun a=>ka (mS t) c (i*t.attrs.length+a)⟩
noncomputable def jX(t:Tb)(c:Nat→Dm):Tb:=⟨t.name,t.attrs,(List.range t.rows.length).map (jY t c)⟩
theorem filT_congr{t:Tb}{fds:List Fd}{l:List Cr}{c c':Nat→Dm}(h:GenS (aW t fds l) c)(g:GenS (aW t fds l) c'):jX t c=jX t c':=by
 unfold jX;congr 1
 refine List.map_congr_left fun i hi=>?_
 unfold jY;congr 1
 refine List.map_congr_left fun a ha=>?_
 exact h.out g _ (bB (m:=(aW t fds l).m) (n:=(aW t fds l).n) (List.mem_range.1 hi) (List.mem_range.1 ha))
noncomputable def pd(t:Tb)(fds:List Fd)(l:List Cr):Tb:=jX t (genC (aW t fds l))
theorem pc{t:Tb}{fds:List Fd}{l:List Cr}{c:Nat→Dm}(h:GenS (aW t fds l) c):pd t fds l=jX t c:=filT_congr (genC_ok h) h
def Bnd(u:Int→Bool)(b:Int):Prop:=∀k,u k=true→k≤b
theorem oz{u:Int→Bool}{b:Int}(hu:Bnd u b)(n:Int):∀(d:Nat) (k:Int),n<k→(∀j,n<j→j<k→u j=true)→b+1-k≤d→∃m,IsNxt u n m∧m≤max k (b+1)
 | 0,k,h1,h2,h3=>by
  refine⟨k,⟨h1,?_,h2⟩,by omega⟩;cases hk:u k
  ·rfl
  ·have:=hu k hk;omega
 | d+1,k,h1,h2,h3=>by
  cases hk:u k with
  | false=>exact⟨k,⟨h1,hk,h2⟩,by omega⟩
  | true =>
   have hb:=hu k hk
   obtain⟨m,hm,hl⟩:=oz hu n d (k+1) (by omega) (fun j hj1 hj2=>by
    rcases Int.lt_or_le j k with h | h
    ·exact h2 j hj1 h
    ·have:j=k:=by omega
     subst this;exact hk) (by omega)
   exact⟨m,hm,by omega⟩
theorem nxt_ok{u:Int→Bool}{b:Int}(hu:Bnd u b)(n:Int):IsNxt u n (nxt u n)∧nxt u n≤max (n+1) (b+1):=by
 obtain⟨m,hm,hl⟩:=oz hu n (b+1-(n+1)).toNat (n+1) (by omega) (fun j h1 h2=>by omega) (by omega);rw[nxt_eq hm];exact⟨hm,hl⟩
theorem numP_le{u:Int→Bool}{b:Int}(hu:Bnd u b)(hb:0≤b):∀k:Nat,0≤ij u k∧ij u k≤b+k
 | 0=>by simp[ij];exact hb
 | k+1=>by
  have ih:=numP_le hu hb k;have h:=nxt_ok hu (ij u k);have:=h.1.gt;rw[ij];omega
theorem fp_min(c:Nat→Dm)(x:Nat):∀z,z<fp c x→c z≠c x:=by
 intro z hz he;unfold fp at hz
 cases h:(List.range (x+1)).find? fun y=>open Classical in decide (c y=c x) with
 | none =>
  rw[h]at hz;have:=List.find?_eq_none.1 h x (by simp);simp at this
 | some y =>
  rw[h]at hz;simp only[Option.getD_some]at hz;obtain⟨_,as',bs,h3,h4⟩:=List.find?_eq_some_iff_append.1 h
  have hzm:z∈as':=by
   have hy:y<x+1:=by have:=List.mem_of_find?_eq_some h;simpa using this
   have hall:z∈as'++y::bs:=by rw[←h3];simp;omega
   rcases List.mem_append.1 hall with h5 | h5
   ·exact h5
   ·exfalso
    have hp:(as'++y::bs).Pairwise (· < ·):=by rw[←h3];exact List.pairwise_lt_range
    rw[List.pairwise_append]at hp
    rcases List.mem_cons.1 h5 with h6 | h6
    ·omega
    ·have:=(List.pairwise_cons.1 hp.2.1).1 z h6;omega
  have:=h4 z hzm;simp[he]at this
theorem fp_uniq{c:Nat→Dm}{x y:Nat}(h:c y=c x):fp c y=fp c x:=by
 have h1:=fp_min c x;have h2:=fp_min c y;have h3:=fp_same c x;have h4:=fp_same c y
 rcases Nat.lt_trichotomy (fp c y) (fp c x) with e | e | e
 ·exact absurd (h4.trans h) (h1 _ e)
 ·exact e
 ·exact absurd (h3.trans h.symm) (h2 _ e)
def eE(d:Dm):Prop:=∃s,d = .inr s
theorem isSym_inl{d:Dm}{v:Vl}(h:d = .inl v):¬eE d:=by rintro⟨s,hs⟩;rw[h]at hs;cases hs
theorem not_isSym{d:Dm}(h:¬eE d):∃v,d = .inl v:=by
 cases d with
 | inl v=>exact⟨v,rfl⟩
 | inr s=>exact absurd ⟨s,rfl⟩ h
theorem rank_new{c:Nat→Dm}{x:Nat}(h1:eE (c x))(h2:fp c x=x):dI c (x+1)=dI c x+1:=by
 unfold dI;rw[List.range_succ,List.filter_append,List.length_append];congr 1;rw[List.filter_cons,if_pos (by simpa[eE] using And.intro h1 h2)];rfl
theorem rank_old{c:Nat→Dm}{x:Nat}(h:¬(eE (c x)∧fp c x=x)):dI c (x+1)=dI c x:=by
 unfold dI;rw[List.range_succ,List.filter_append,List.length_append];rw[show List.filter _ [x]=[] by rw[List.filter_cons,if_neg (by simpa[eE] using h)];rfl];rfl
theorem rank_le(c:Nat→Dm)(x:Nat):dI c x≤x:=by
 unfold dI;exact Nat.le_trans (List.length_filter_le _ _) (by simp)
noncomputable def cls(u:Int→Bool)(c:Nat→Dm)(x:Nat):Int:=ij u (dI c (fp c x)+1)
theorem out_inl{u:Int→Bool}{c:Nat→Dm}{x:Nat}{v:Vl}(h:c x = .inl v):ka u c x=v:=by unfold ka;rw[h]
theorem out_inr{u:Int→Bool}{c:Nat→Dm}{x:Nat}(h:eE (c x)):ka u c x=⟨3,cls u c x,ByteArray.empty⟩:=by
 obtain⟨s,hs⟩:=h;unfold ka;rw[hs];rfl
theorem cls_new{u:Int→Bool}{c:Nat→Dm}{x:Nat}(h:fp c x=x):cls u c x=nxt u (ij u (dI c x)):=by
 unfold cls;rw[h];rfl
theorem cls_uniq{u:Int→Bool}{c:Nat→Dm}{x y:Nat}(h:c y=c x):cls u c y=cls u c x:=by
 unfold cls;rw[fp_uniq h]
open Classical in
noncomputable def nmL(c:Nat→Dm)(r:Nat→Nat)(x:Nat):List Nat:=((List.range x).filter fun y=>decide (eE (c y)∧fp c y=y)).map r
theorem nmL_zero(c:Nat→Dm)(r:Nat→Nat):nmL c r 0=[]:=rfl
theorem nmL_new{c:Nat→Dm}{r:Nat→Nat}{x:Nat}(h1:eE (c x))(h2:fp c x=x):nmL c r (x+1)=nmL c r x++[r x]:=by
 unfold nmL;rw[List.range_succ,List.filter_append,List.map_append];congr 1;rw[List.filter_cons,if_pos (by simpa using And.intro h1 h2)];rfl
theorem nmL_old{c:Nat→Dm}{r:Nat→Nat}{x:Nat}(h:¬(eE (c x)∧fp c x=x)):nmL c r (x+1)=nmL c r x:=by
 unfold nmL;rw[List.range_succ,List.filter_append,List.map_append];rw[show List.filter _ [x]=[] by rw[List.filter_cons,if_neg (by simpa using h)];rfl];simp
theorem nmL_mem{q:Prob}{r:Nat→Nat}{x:Nat}(h:eE (eA q r x)):r x∈nmL (eA q r) r x↔fp (eA q r) x≠x:=by
 have hr:∀y,eA q r y=eA q r x→r y=r x:=fun y he=>by
  obtain⟨s,hs⟩:=h
  have h1:eA q r x = .inr (r x):=by
   unfold eA at hs ⊢
   cases hk:q.K (r x) with
   | some v=>rw[hk]at hs;cases hs
   | none=>rfl
  rw[h1]at he;unfold eA at he
  cases hk:q.K (r y) with
  | some v=>rw[hk]at he;cases he
  | none=>rw[hk]at he;exact Sum.inr.inj he
 have hle:=fp_le (eA q r) x;constructor
 ·intro hm;obtain⟨y,hy,hyr⟩:=List.mem_map.1 hm;obtain⟨h1,h2⟩:=List.mem_filter.1 hy
  have hlt:y<x:=by simpa using h1
  obtain⟨h3,h4⟩:eE (eA q r y)∧fp (eA q r) y=y:=by simpa using h2
  have:eA q r y=eA q r x:=by unfold eA;rw[hyr]
  have:=fp_uniq this;omega
 ·intro hne;have h1:=fp_same (eA q r) x;refine List.mem_map.2 ⟨fp (eA q r) x,List.mem_filter.2 ⟨by simp;omega,by simpa using And.intro (show eE (eA q r (fp (eA q r) x)) by rw[h1];exact h) (fp_uniq h1)⟩,hr _ h1⟩
end
def mF(enc:Int→V)(us:List Int):List (V×V):=us.map fun x=>(V.int .i64 x,enc x)
theorem mF_nil(enc:Int→V):mF enc []=[]:=rfl
theorem mF_snoc(enc:Int→V)(us:List Int)(x:Int):mF enc (us++[x])=mF enc us++[(V.int .i64 x,enc x)]:=by simp[mF]
theorem pY(enc:Int→V)(x u:Int)(us:List Int)(i:Nat):fu (.int .i64 x) (mF enc (u::us)) i=if(x == u)=true then some (i,enc u) else fu (.int .i64 x) (mF enc us) (i+1):=rfl
theorem lZ{enc:Int→V}{x:Int} : ∀{us:List Int} {i:Nat},il us x=false→fu (.int .i64 x) (mF enc us) i=none
 | [],_,_=>rfl
 | u::us,i,h=>by
  rw[memB_cons,Bool.or_eq_false_iff]at h;rw[pY,h.1,if_neg (by simp)];exact lZ h.2
theorem iH{enc:Int→V}{x:Int} : ∀{us:List Int} {i:Nat},il us x=true→∃j,fu (.int .i64 x) (mF enc us) i=some (i+j,enc x)∧us[j]?=some x
 | [],_,h=>by simp[il]at h
 | u::us,i,h=>by
  rw[pY];cases hq:x == u
  ·rw[memB_cons,hq,Bool.false_or]at h;obtain⟨j,h1,h2⟩:=iH (enc:=enc) (i:=i+1) h;exact⟨j+1,by rw[if_neg (by simp)];rw[show i+(j+1)=i+1+j by omega];exact h1,by simpa using h2⟩
  ·exact⟨0,by simp[beq_iff_eq.1 hq],by simp[beq_iff_eq.1 hq]⟩
theorem set_mF{enc:Int→V}{us:List Int}{x:Int}{j:Nat}(h:us[j]?=some x):(mF enc us).set j (V.int .i64 x,enc x)=mF enc us:=by
 unfold mF;apply List.ext_getElem?;intro k;by_cases hk:j=k
 ·subst hk;have hl:=aE h;rw[List.getElem?_set_self (by simpa using hl),List.getElem?_map,h];rfl
 ·rw[List.getElem?_set_ne hk]
theorem rbB_mF{enc:Int→V}(he:∀n x,rb n (enc x))(n:Nat)(kk:KK)(us:List Int):rbB n (.map kk (mF enc us))↔True:=by
 refine⟨fun _=>trivial,fun _ p hp=>?_⟩;obtain⟨x,_,rfl⟩:=List.mem_map.1 hp;exact⟨trivial,he n x⟩
def addK(us:List Int)(k:Int):List Int:=if il us k=true then us else us++[k]
theorem addK_yes{us:List Int}{k:Int}(h:il us k=true):addK us k=us:=by unfold addK;rw[if_pos h]
theorem addK_no{us:List Int}{k:Int}(h:il us k=false):addK us k=us++[k]:=by unfold addK;rw[if_neg (by rw[h];simp)]
theorem addK_mem{us:List Int}{k x:Int} : x∈addK us k↔x∈us∨x=k:=by
 cases h:il us k with
 | true =>
  rw[addK_yes h];exact⟨.inl,fun g=>g.elim id fun e=>by rw[e];exact pD.1 h⟩
 | false=>rw[addK_no h];simp
theorem dY{P:Program}{f:FuncId}{args:List V}{H:List B}{K K':V→List B→Prop}(h:az P f args H K)(hk:∀r H',K r H'→K' r H'):aV P (.fn f []) args H K':=by
 simp only[aV,List.append_nil];exact h.mono hk
def gJ(a b:ByteArray):Bool:=a.toList == b.toList
def mj(a b:List ByteArray):Bool:=decide (a.length=b.length)&&(List.range a.length).all fun i=>gJ (sAt a i) (sAt b i)
theorem strings03(a b:List ByteArray)(f g:Bool)(hl:a.length≤1000000):aS Tryz.prog 59 [LS f a,LS g b] fun r=>r = .bool (mj a b):=by
 unfold mj;by_cases h0:a.length=b.length
 ·rw[decide_eq_true h0,Bool.true_and]
  obtain⟨E,hE⟩:∃E,E=(List.range a.length).all fun i=>gJ (sAt a i) (sAt b i):=⟨_,rfl⟩
  rw[←hE];refine aC (aD tok Tryz.func59 rfl rfl ?_);refine wx ?_;simp -implicitDefEqProofs -dsimp[Tryz.f59,List.replicate,LS,h0];refine aK (W_loopM 26 [4,5,11,12,13,14,15,16,17,18,19,20,21,22,23,24,25] (by simp[mB]<;>rfl) (σ:=Nat) (fun i=>i≤a.length∧(List.range i).all (fun i=>gJ (sAt a i) (sAt b i))=true) (fun i=>a.length-i) (fun i=>[(5,.int .i64 i)]) (fun _=>[]) 0 ⟨by omega,rfl⟩ (by simp) rfl (by simp) ?_);rintro i ⟨hi,hall⟩ N Q hN hQ;by_cases hb:i<a.length
  ·have hb2:i<b.length:=by omega
   have ha1:sAt a i=a[i]:=by simp[sAt,hb]
   have ha2:sAt b i=b[i]:=by simp[sAt,hb2]
   cases hq:(a[i].toList == b[i].toList) with
   | true =>
    refine wx ?_;simp -implicitDefEqProofs -dsimp[hb,hb2,hq];refine .inr ⟨aJ (by kernel_rfl),?_⟩;simp -implicitDefEqProofs -dsimp[aM i (by omega)];refine hN (i+1) _ _ ⟨by omega,dn hall (by unfold gJ;rw[ha1,ha2,hq])⟩ (by omega) (by simp) ⟨[],rfl⟩ (by simp) (by simp)
   | false =>
    have hno:(List.range a.length).all (fun i=>gJ (sAt a i) (sAt b i))=false:=by
     cases hh:(List.range a.length).all (fun i=>gJ (sAt a i) (sAt b i))
     ·rfl
     ·have:=List.all_eq_true.1 hh i (by simpa using hb);rw[gJ,ha1,ha2,hq]at this;cases this
    rw[hno]at hE;refine wx ?_;simp -implicitDefEqProofs -dsimp[hb,hb2,hq];refine .inr ⟨aJ (by kernel_rfl),?_⟩;refine hQ _ _ _ ?_;simp -implicitDefEqProofs -dsimp[];exact hE
  ·obtain rfl:i=a.length:=by omega
   rw[hall]at hE;refine wx ?_;simp -implicitDefEqProofs -dsimp[hb];refine hQ _ _ _ ?_;simp -implicitDefEqProofs -dsimp[];exact hE
 ·rw[decide_eq_false h0,Bool.false_and];refine aC (aD tok Tryz.func59 rfl rfl ?_);refine wx ?_;simp -implicitDefEqProofs -dsimp[Tryz.f59,List.replicate,LS,show ¬((a.length:Int)=b.length) by omega]
def rwG(rs:List Rw)(i:Nat):Rw:=rs.getD i ⟨0,[]⟩
@[simp ↓ high] theorem rbB_rws (n e z:Nat) (l:List Rw) (fz:Bool):rbB n (.buf e z (l.map aN) fz)↔True:=by
 refine⟨fun _=>trivial,fun _ x hx c hc=>?_⟩;obtain⟨r,_,rfl⟩:=List.mem_map.1 hx;simp[aN,LV,V.cells]at hc
 rcases hc with rfl | rfl<;>simp
@[simp ↓ high] theorem rbB_vls (n e z:Nat) (l:List Vl) (fz:Bool):rbB n (.buf e z (l.map am) fz)↔True:=by
 refine⟨fun _=>trivial,fun _ x hx c hc=>?_⟩;obtain⟨r,_,rfl⟩:=List.mem_map.1 hx;simp[am,V.cells]at hc
 rcases hc with rfl | rfl | rfl<;>simp
end
end Go.Proofs.YteijbpppalhihaaGreat
namespace Go.Proofs.YteijbpppalhihaaGreat
section
open Go Go.AM Go.RowKit
theorem infoD_S:(Tryz.prog.info? 9).map (fun i=>(i.zero,i.size,i.bytes))=some (some (.string ⟨#[]⟩),1,16):=by kernel_rfl
theorem cloneE_S(A:Option Addr)(cap:Nat)(w:World):
  Calls Tryz.prog 53 #[.slice A 0 cap] w fun e w'=>∃v,e = .returned v∧w'.ownsRow w.heap.size 9 1 v 0 []∧Below w.heap.size w w':=by
 have hnil:=fun W A n c=>Lib.run_eql_slice_nil (P:=Tryz.prog) W 29 9 A n c 0 0 Tryz.underlying29
 cases A with
 | none =>
  go_enter Tryz.func53,Tryz.ntmps53
  go_wp2
  go_ret
  exact⟨_,rfl,World.ownsRow_nil _ _ _ _,Below.refl _ _⟩
 | some ad =>
  obtain⟨i0,hi,hz0,hz1,hz2⟩:=info_parts infoD_S;have hown:(w.alloc (.cells #[] 9)).ownsRow w.heap.size 9 1 (.slice (some ⟨w.heap.size,0,none⟩) 0 0) 0 []:=World.ownsRow_lit w #[] 0 (Nat.le_refl _) (by simp[maxLen]) (by simp)
  have hnews:∀j u,([]:List Value)[j]?=some u→(w.alloc (.cells #[] 9)).cell? (ad.add j)=some u:=by
   intro j u hu;simp at hu
  have hone:∀u∈([]:List Value),u.oneCell'=true:=by intro u hu;cases hu
  have h63:0+0≤maxLen:=by simp[maxLen]
  have hby:(0+0)*16≤140737488355328:=by omega
  have hlen:([]:List Value).length=0*1:=by simp
  have Hi:=Lib.hid (show Tryz.prog.info? 9=some i0∧i0.zero=some _∧i0.size=1∧i0.bytes=16 from⟨hi,hz0,hz1,hz2⟩);have Hw:=Lib.hid (And.intro hown (And.intro hnews (And.intro hone (And.intro h63 (And.intro hby hlen)))));clear hnews hone hown hi hz0 hz1 hz2 h63 hby hlen
  go_enter Tryz.func53,Tryz.ntmps53
  go_wp2_with (at_builtin;refine wpList_append_own _ rfl _ _ 29 rfl w.heap.size 9 i0 _ 1 16 Tryz.underlying29 Hi.out.1 Hi.out.2.1 Hi.out.2.2.1 Hi.out.2.2.2 rfl (by omega) (.slice (some ⟨w.heap.size,0,none⟩) 0 0) 0 [] rfl Hw.out.1 ad 0 cap [] rfl Hw.out.2.2.2.2.2 Hw.out.2.1 Hw.out.2.2.1 Hw.out.2.2.2.1 Hw.out.2.2.2.2.1 (by simp) ?_;intro v1 w1 ho hg hn;have Ho:=Lib.hid ho;have Hg:=Lib.hid hg;have Hn:=Lib.hid hn;clear ho hg hn)
  go_ret
  exact⟨v1,rfl,by have:=Ho.out;simpa using this,((Below.refl _ _).alloc (Nat.le_refl _) _).grown Hg.out (by simp) (by simp[Value.ownBlock])⟩
theorem cloneN_S:∀(f:Bool),aS Tryz.prog 53 [.lst 1 f []] fun r=>r = .lst 1 false []:=fun f=>by
 have hO:gK Tryz.prog 53 [.lst 1 f []] fun e z ys=>e=9∧z=1∧ys=[]:=iO ⟨Tryz.f53,Tryz.func53,rfl,rfl⟩ (fun F w vals hsz hrel=>by
  obtain⟨u0,rfl⟩:∃u0,vals = #[u0]:=by
   obtain⟨l⟩:=vals
   match l,hsz with
   | [a],_=>exact⟨a,rfl⟩
  have r0:=hrel 0 _ u0 rfl rfl;cases r0
  refine(cloneE_S _ _ _).mono fun e' w' ⟨v,he,hown,hb⟩=>⟨v,he,hb,?_⟩
  obtain⟨_,⟨hv,_⟩ | ⟨g,c,cur,hv,hg,hc,hn,hm,hs,_⟩⟩:=hown
  ·exact .inl hv
  ·exact .inr ⟨g,c,cur,hv,hg,hc,hm,hs⟩)
 refine⟨hO.1,fun F w vals hZ hF hsz hrel=>((conP_of_conO hO).2 F w vals hZ hF hsz hrel).mono fun e w' ⟨u,r,h1,h2,h3,h4,e',z,ys,h5,h6,h7,h8⟩=>?_⟩;subst h6;subst h7;subst h8;exact⟨u,r,h1,h2,h3,h4,h5⟩
theorem clone_S(l:List ByteArray)(f:Bool)(hl:l.length≤1000000):aS Tryz.prog 53 [LS f l] fun r=>r=LS false l:=by
 cases l with
 | nil=>exact cloneN_S f
 | cons x xs =>
  have hl':xs.length≤1000000:=by simp only[List.length_cons]at hl;omega
  refine aC (aD tok Tryz.func53 rfl rfl ?_);refine wx ?_;simp -implicitDefEqProofs -dsimp[Tryz.f53,List.replicate,LS,eZ,je xs.length (by omega),List.map];exact dr rfl (by simp) (by simp)
end
end Go.Proofs.YteijbpppalhihaaGreat
namespace Go.Proofs.YteijbpppalhihaaGreat
section
open Go Go.AM
theorem root_at{q:Prob}{P:List Nat}{r h:Nat→Nat}(f:Frt q P r h){H:List B}{n N:Nat}(hNe:q.m*q.n=N)(hN:N≤1000000)(h3:H[3]?=some (.cells [.int .i64 n,.buf 4 0 N N,.buf 5 0 N N]))(h4:H[4]?=some (.buf 3 1 (paL P) false))(h5:H[5]?=some (.buf 113 1 (knL q.K N) false))(hrb:∀bl∈H,rbB H.length bl)(x:Nat)(hx:x<N):
  az Tryz.prog 54 [.ptr 3 0,.int .i64 x] H fun r' H'=>r' = .int .i64 (r x)∧H'=H:=by
 have hl:=aE h4
 have hset:∀P',∀bl∈Ht H 4 P',rbB H.length bl:=fun P' bl hbl=>by
  unfold Ht at hbl
  rcases List.mem_or_eq_of_mem_set hbl with e | e
  ·exact hrb bl e
  ·subst e;simp
 have g:HOk H 3 4 5 n N q.K:=⟨h3,hl,h5,by omega,by omega,hset⟩
 have hsame:Ht H 4 P=H:=by
  unfold Ht;apply List.ext_getElem?;intro k;by_cases hk:4=k
  ·subst hk;rw[List.getElem?_set_self hl,h4]
  ·rw[List.getElem?_set_ne hk]
 have:=oZ f hNe g hN x hx;rw[hsame]at this;exact this
def gW(t:Tb):Nat→List Int
 | 0=>[]
 | x+1=>if(bL t x).k=3 then addK (gW t x) (bL t x).n else gW t x
theorem usTo_yes{t:Tb}{x:Nat}(h:(bL t x).k=3):gW t (x+1)=addK (gW t x) (bL t x).n:=by rw[gW,if_pos h]
theorem usTo_no{t:Tb}{x:Nat}(h:¬(bL t x).k=3):gW t (x+1)=gW t x:=by rw[gW,if_neg h]
theorem usTo_mem(t:Tb)(k:Int):∀x,k∈gW t x↔∃y,y<x∧(bL t y).k=3∧(bL t y).n=k
 | 0=>by simp[gW]
 | x+1=>by
  have ih:=usTo_mem t k x;by_cases h:(bL t x).k=3
  ·rw[usTo_yes h,addK_mem,ih];constructor
   ·rintro(⟨y,h1,h2,h3⟩ | h1)
    ·exact⟨y,by omega,h2,h3⟩
    ·exact⟨x,by omega,h,h1.symm⟩
   ·rintro⟨y,h1,h2,h3⟩
    rcases Nat.lt_or_ge y x with h4 | h4
    ·exact .inl ⟨y,h4,h2,h3⟩
    ·have:y=x:=by omega
     subst this;exact .inr h3.symm
  ·rw[usTo_no h,ih];constructor
   ·rintro⟨y,h1,h2,h3⟩;exact⟨y,by omega,h2,h3⟩
   ·rintro⟨y,h1,h2,h3⟩
    rcases Nat.lt_or_ge y x with h4 | h4
    ·exact⟨y,h4,h2,h3⟩
    ·have:y=x:=by omega
     subst this;exact absurd h2 h
theorem unkT_iff{t:Tb}{k:Int} : mS t k=true↔∃y,y<t.rows.length*t.attrs.length∧(bL t y).k=3∧(bL t y).n=k:=by
 unfold mS;simp[List.any_eq_true]
theorem usTo_all(t:Tb)(k:Int):il (gW t (t.rows.length*t.attrs.length)) k=mS t k:=by
 rw[Bool.eq_iff_iff,pD,usTo_mem,unkT_iff]
def TbN(t:Tb):Prop:=∀y,y<t.rows.length*t.attrs.length→(bL t y).n≤1000000
theorem TbN.bnd{t:Tb}(h:TbN t):Bnd (mS t) 1000000:=fun k hk=>by
 obtain⟨y,h1,_,h3⟩:=unkT_iff.1 hk;have:=h y h1;omega
def ez:Int→V:=fun _=>.bool true
noncomputable def fy(u:Int→Bool)(c:Nat→Dm):Int→V:=fun k=>.agg [.int .i64 3,.int .i64 (cls u c k.toNat),.str ByteArray.empty]
@[simp ↓ high] theorem rb_BT (n:Nat) (kk:KK) (us:List Int):rbB n (.map kk (mF ez us))↔True:=rbB_mF (fun _ _=>by simp[ez]) n kk us
@[simp ↓ high] theorem rb_NM (n:Nat) (kk:KK) (u:Int→Bool) (c:Nat→Dm) (us:List Int):rbB n (.map kk (mF (fy u c) us))↔True:=rbB_mF (fun _ _=>by simp[fy]) n kk us
def toI(l:List Nat):List Int:=l.map fun(x:Nat)=>(x:Int)
theorem toI_snoc(l:List Nat)(x:Nat):toI (l++[x])=toI l++[(x:Int)]:=by simp[toI]
theorem toI_mem{l:List Nat}{x:Nat} : il (toI l) (x:Int)=true↔x∈l:=by
 rw[pD];unfold toI;constructor
 ·intro h;obtain⟨y,hy,he⟩:=List.mem_map.1 h
  have:y=x:=by omega
  rw[←this];exact hy
 ·intro h;exact List.mem_map.2 ⟨x,h,rfl⟩
theorem toI_no{l:List Nat}{x:Nat}(h:¬x∈l):il (toI l) (x:Int)=false:=by
 cases hb:il (toI l) (x:Int)
 ·rfl
 ·exact absurd (toI_mem.1 hb) h
noncomputable def nW(u:Int→Bool)(c:Nat→Dm)(b a:Nat):List Vl:=(List.range a).map fun k=>ka u c (b+k)
theorem vlTo_succ(u:Int→Bool)(c:Nat→Dm)(b a:Nat):nW u c b (a+1)=nW u c b a++[ka u c (b+a)]:=by simp[nW,List.range_succ]
theorem vlTo_len(u:Int→Bool)(c:Nat→Dm)(b a:Nat):(nW u c b a).length=a:=by simp[nW]
noncomputable def rwTo(t:Tb)(c:Nat→Dm)(i:Nat):List Rw:=(List.range i).map (jY t c)
theorem rwTo_succ(t:Tb)(c:Nat→Dm)(i:Nat):rwTo t c (i+1)=rwTo t c i++[jY t c i]:=by simp[rwTo,List.range_succ]
theorem rwTo_len(t:Tb)(c:Nat→Dm)(i:Nat):(rwTo t c i).length=i:=by simp[rwTo]
theorem filRow_eq(t:Tb)(c:Nat→Dm)(i:Nat):jY t c i=⟨(cI t i).id,nW (mS t) c (i*t.attrs.length) t.attrs.length⟩:=rfl
def zeroT:V:=.agg [.str ByteArray.empty,.nilS,.nilS]
noncomputable def FillR(t:Tb)(fds:List Fd)(l:List Cr):V:=if dl t fds l=0 then(if okB (aW t fds l) then .tup [aF false false (pd t fds l),.int .i64 0] else .tup [zeroT,.int .i64 15]) else .tup [zeroT,.int .i64 (dl t fds l)]
theorem fill_at{t:Tb}{fds:List Fd}{l:List Cr}(hv:TbV t)(hF:bo fds){H1:List B}(g:HOk H1 3 4 5 t.attrs.length (t.rows.length*t.attrs.length) (aW t fds l).K)(hht:Ht H1 4 (List.range (t.rows.length*t.attrs.length))=H1)(df:Bool):
  az Tryz.prog 52 [.ptr 3 0,.int .i64 t.rows.length,LF df fds] H1 fun r' H'=>∃P G,r' = .bool (okB (aW t fds l))∧H'=Ht H1 4 P++G∧(okB (aW t fds l)=true→G=[]∧Fr (aW t fds l) P∧eO (aW t fds l) (rFn (aW t fds l) P)):=by
 have c:=fill_u (frt_init (aW t fds l)) (rfl:(aW t fds l).m*(aW t fds l).n=_) rfl g (fg hv) hv.attrs (by have:=hv.rows;show t.rows.length≤_;omega) df hF;rw[show List.range ((aW t fds l).m*(aW t fds l).n)=List.range (t.rows.length*t.attrs.length) from rfl,hht]at c
 exact c.mono fun r H ⟨a,b,d⟩=>⟨_,_,a,b,d⟩
theorem Fill_u(t:Tb)(ff gg df cf:Bool)(fds:List Fd)(l:List Cr)(ht:TbOk t)(hB:TbN t)(hF:bo fds)(hcl:l.length≤1000000):
  aS Tryz.prog 22 [aF ff gg t,LF df fds,LC cf l] fun r=>r=FillR t fds l:=by
 have c1:=oH t ff gg df cf fds l ht hF hcl;simp only[aF,LS,LR,LC,LF]at c1;unfold FillR;by_cases h:dl t fds l=0
 ·obtain⟨hv,h1,h2,h3,h4⟩:=kK ht h;rw[if_pos h];rw[h]at c1;obtain⟨b0,hb0⟩:∃b0,b0=B.cells [.str t.name,.lst 1 ff (t.attrs.map V.str),.lst 2 gg (t.rows.map aN)]:=⟨_,rfl⟩;obtain⟨b1,hb1⟩:∃b1,b1=B.cells [.str ByteArray.empty,.nilS,.nilS]:=⟨_,rfl⟩
  have hrb:∀bl∈[b0,b1],rbB 1 bl:=by rw[hb0,hb1];simp
  have hrb2:∀bl∈[b0,b1],rbB [b0,b1].length bl:=by rw[hb0,hb1];simp
  have cb:=begin2 t ff gg cf fds l hv h3 hcl b0 b1 hrb;have g:HOk (gn [b0,b1] ff gg t (aW t fds l).K) 3 4 5 t.attrs.length (t.rows.length*t.attrs.length) (aW t fds l).K:=begOk [b0,b1] ff gg t (aW t fds l).K hrb2;have hht:Ht (gn [b0,b1] ff gg t (aW t fds l).K) 4 (List.range (t.rows.length*t.attrs.length))=gn [b0,b1] ff gg t (aW t fds l).K:=begHt [b0,b1] ff gg t (aW t fds l).K;have cf2:=fill_at hv hF g hht df;obtain⟨n,hne⟩:∃n,n=t.attrs.length:=⟨_,rfl⟩;obtain⟨m,hme⟩:∃m,m=t.rows.length:=⟨_,rfl⟩;obtain⟨q,hq⟩:∃q,q=aW t fds l:=⟨_,rfl⟩;obtain⟨N,hNe⟩:∃N,N=m*n:=⟨_,rfl⟩;have hne':=hne.symm;have hme':=hme.symm;obtain⟨H1,hH1⟩:∃H1,H1=gn [b0,b1] ff gg t (aW t fds l).K:=⟨_,rfl⟩
  have hat:H1[0]?=some (B.cells [.str t.name,.lst 1 ff (t.attrs.map V.str),.lst 2 gg (t.rows.map aN)]):=by rw[hH1,hb0];rfl
  have hH2:∀P G,Ht H1 4 P++G=B.cells [.str t.name,.lst 1 ff (t.attrs.map V.str),.lst 2 gg (t.rows.map aN)]::B.cells [.str ByteArray.empty,.nilS,.nilS]::B.cells [.str t.name,.lst 1 ff (t.attrs.map V.str),.lst 2 gg (t.rows.map aN)]::B.cells [.int .i64 n,.buf 4 0 N N,.buf 5 0 N N]::B.buf 3 1 (paL P) false::B.buf 113 1 (knL q.K N) false::G:=fun P G=>by
   rw[hH1,hb0,hb1,hq,hNe,hme,hne];simp[Ht,gn,LS,LR]
  rw[←hH1]at cb cf2;rw[hb0,hb1]at cb;rw[←hq,hme']at cf2;rw[←hq];simp only[aF,LS,LR,LC]at cb;simp only[LF]at cf2;have cs:=clone_S t.attrs ff (by have:=ht.attrs;omega);simp only[LS]at cs
  cases hok:okB q with
  | false =>
   rw[hok]at cf2;rw[if_neg (by simp)];refine aC (aD tok Tryz.func22 rfl rfl ?_);refine wx ?_;simp -implicitDefEqProofs -dsimp[Tryz.f22,List.replicate,aF,LS,LR,LC,LF];refine(aG (c1) (by simp)).mono ?_;rintro r H' ⟨rfl,rfl⟩;simp -implicitDefEqProofs -dsimp[];refine dY cb ?_;rintro r' H' ⟨rfl,rfl⟩;simp -implicitDefEqProofs -dsimp[hat,hme'];refine dY cf2 ?_;rintro r' H' ⟨P,G,rfl,rfl,_⟩;rw[hH2];simp -implicitDefEqProofs -dsimp[];rfl
  | true =>
   rw[hok]at cf2;rw[if_pos rfl];have hm:=hv.rows;have hn:=hv.attrs;rw[hme']at hm;rw[hne']at hn;have hbig:m*n≤1000*16:=Nat.mul_le_mul hm hn
   have hN16:N≤16000:=by omega
   have hqm:q.m=m:=by rw[hq,hme];rfl
   have hqn:q.n=n:=by rw[hq,hne];rfl
   have hqN:q.m*q.n=N:=by rw[hqm,hqn,hNe]
   refine aC (aD tok Tryz.func22 rfl rfl ?_);refine wx ?_;simp -implicitDefEqProofs -dsimp[Tryz.f22,List.replicate,aF,LS,LR,LC,LF];refine(aG (c1) (by simp)).mono ?_;rintro r H' ⟨rfl,rfl⟩;simp -implicitDefEqProofs -dsimp[];refine dY cb ?_;rintro r' H' ⟨rfl,rfl⟩;simp -implicitDefEqProofs -dsimp[hat,hme'];refine dY cf2 ?_;rintro r' H' ⟨P,G,rfl,rfl,hh⟩;obtain⟨rfl,⟨hgt,f⟩,hcls⟩:=hh rfl;rw[hH2];obtain⟨r,hr⟩:∃r,r=rFn q P:=⟨_,rfl⟩;rw[←hr]at f hcls;obtain⟨c,hc⟩:∃c,c=eA q r:=⟨_,rfl⟩;have hgen:GenS q c:=hc▸f.gen hcls;have hfT:pd t fds l=jX t c:=pc (hq▸hgen);obtain⟨u,hu⟩:∃u,u=mS t:=⟨_,rfl⟩
   have hnum:∀k,0≤ij u k∧ij u k≤1000000+k:=fun k=>by rw[hu];exact numP_le hB.bnd (by omega) k
   simp -implicitDefEqProofs -dsimp[hme'];refine aK (W_loopM 67 [12,14,48,49,50,51,52,53,54,55,56,57,58,59,60,61,62,63,64,65,66] (by simp[mB]<;>rfl) (σ:=Nat) (fun i=>i≤m) (fun i=>m-i) (fun i=>[(48,.int .i64 i)]) (fun i=>[B.cells [.str t.name,.lst 1 ff (t.attrs.map V.str),.lst 2 gg (t.rows.map aN)],B.cells [.str ByteArray.empty,.nilS,.nilS],B.cells [.str t.name,.lst 1 ff (t.attrs.map V.str),.lst 2 gg (t.rows.map aN)],B.cells [.int .i64 n,.buf 4 0 N N,.buf 5 0 N N],B.buf 3 1 (paL P) false,B.buf 113 1 (knL q.K N) false,B.map (.int .i64) (mF ez (gW t (i*n)))]) 0 (by omega) (by simp) (by simp[gW,mF_nil]) (by simp) ?_);intro i hi N1 Q1 hN1 hQ1;by_cases hib:i<m
   ·skip
    have hit:i<t.rows.length:=by omega
    obtain⟨rw,hrw⟩:∃rw,rw=t.rows[i]:=⟨_,rfl⟩;have hrw':=hrw.symm
    have hvl:rw.vals.length=n:=by rw[hrw,hne];exact hv.len _ (List.getElem_mem hit)
    refine wx ?_;simp -implicitDefEqProofs -dsimp[hib,hme',hit,hrw',aN,LV,hvl];refine aK (W_loopM 66 [14,55,56,57,58,59,60,61,62,63,64,65] (by simp[mB]<;>rfl) (σ:=Nat×Nat) (fun p=>p.1≤n∧p.2=i*n+p.1) (fun p=>n-p.1) (fun p=>[(55,.int .i64 p.1)]) (fun p=>[B.cells [.str t.name,.lst 1 ff (t.attrs.map V.str),.lst 2 gg (t.rows.map aN)],B.cells [.str ByteArray.empty,.nilS,.nilS],B.cells [.str t.name,.lst 1 ff (t.attrs.map V.str),.lst 2 gg (t.rows.map aN)],B.cells [.int .i64 n,.buf 4 0 N N,.buf 5 0 N N],B.buf 3 1 (paL P) false,B.buf 113 1 (knL q.K N) false,B.map (.int .i64) (mF ez (gW t p.2)),B.cells [.int .i64 rw.id,.lst 3 false (rw.vals.map am)]]) (0,i*n) ⟨by simp,by simp⟩ (by simp) (by simp) (by simp) ?_);rintro⟨a,x⟩ ⟨ha,hx⟩ N2 Q2 hN2 hQ2;simp only at ha hx hN2;by_cases hab:a<n
    ·have hva:a<rw.vals.length:=by omega
     obtain⟨v,hve⟩:∃v,v=rw.vals[a]:=⟨_,rfl⟩;have hve':=hve.symm
     have hvt:bL t x=v:=by
      rw[hx,hne,fD t (hne▸hab),bF hit,←hrw,gV hva,hve]
     have hst:=fun h=>usTo_yes (t:=t) (x:=x) h
     have hst2:=fun h=>usTo_no (t:=t) (x:=x) h
     rw[hvt]at hst hst2;by_cases hk:v.k=3
     ·have hst:=hst hk
      cases hmem:il (gW t x) v.n with
      | false =>
       rw[addK_no hmem]at hst;have hf:=lZ (enc:=ez) (i:=0) hmem;have hsn:mF ez (gW t x++[v.n])=mF ez (gW t x)++[(V.int .i64 v.n,V.bool true)]:=mF_snoc _ _ _;refine wx ?_;simp -implicitDefEqProofs -dsimp[hab,hvl,hva,hve',am,hk,hf,aM a (by omega)];refine hN2 (a+1,x+1) _ _ ⟨by simp only;omega,by simp only;omega⟩ (by simp only;omega) (by simp) ⟨[B.cells [.int .i64 v.k,.int .i64 v.n,.str v.s]],by simp[hst,hsn,hk]⟩ (by simp) (by simp)
      | true =>
       rw[addK_yes hmem]at hst;obtain⟨j,hf,hj⟩:=iH (enc:=ez) (i:=0) hmem;have hset:(mF ez (gW t x)).set j (V.int .i64 v.n,V.bool true)=mF ez (gW t x):=set_mF hj;rw[Nat.zero_add]at hf;refine wx ?_;simp -implicitDefEqProofs -dsimp[hab,hvl,hva,hve',am,hk,hf,hset,aM a (by omega)];refine hN2 (a+1,x+1) _ _ ⟨by simp only;omega,by simp only;omega⟩ (by simp only;omega) (by simp) ⟨[B.cells [.int .i64 v.k,.int .i64 v.n,.str v.s]],by simp[hst,hk]⟩ (by simp) (by simp)
     ·have hst:=hst2 hk;refine wx ?_;simp -implicitDefEqProofs -dsimp[hab,hvl,hva,hve',am,hk,aM a (by omega)];refine hN2 (a+1,x+1) _ _ ⟨by simp only;omega,by simp only;omega⟩ (by simp only;omega) (by simp) ⟨[B.cells [.int .i64 v.k,.int .i64 v.n,.str v.s]],by simp[hst]⟩ (by simp) (by simp)
    ·have hxe:(i+1)*n=x:=by rw[Nat.add_mul];omega
     refine wx ?_;simp -implicitDefEqProofs -dsimp[hab,hvl];refine hQ2 _ _ _ ?_;simp -implicitDefEqProofs -dsimp[aM i (by omega)];refine hN1 (i+1) _ _ (by omega) (by omega) (by simp) ⟨[B.cells [.int .i64 rw.id,.lst 3 false (rw.vals.map am)]],by simp[hxe]⟩ (by simp) (by simp)
   ·obtain rfl:i=m:=by omega
    have hus:∀k,il (gW t (i*n)) k=u k:=fun k=>by rw[hme,hne,hu];exact usTo_all t k
    obtain⟨us,hus'⟩:∃us,us=gW t (i*n):=⟨_,rfl⟩;rw[←hus']at hus ⊢;have hu1:=hB.bnd;rw[←hu]at hu1;refine wx ?_;simp -implicitDefEqProofs -dsimp[hib,hme'];refine hQ1 _ _ _ ?_;simp -implicitDefEqProofs -dsimp[];refine aK (ai tok mixed [6,7] [(0,[1]),(1,[1]),(2,[1]),(3,[1]),(4,[1]),(5,[1])] [(.lst 1 false (t.attrs.map V.str),[])] (by kernel_rfl) fun C K hC hK=>?_);simp -implicitDefEqProofs [];refine⟨⟨hC _ _ _ _ (aG cs (by simp)),hC _ _ _ _ (aG cs (by simp))⟩,hK _ _ ?_⟩;obtain⟨m,hmi⟩:∃m,m=i:=⟨_,rfl⟩;rw[←hmi]at hm hbig hqm hNe hme hme';clear hib hi hmi;simp -implicitDefEqProofs -dsimp[hme'];refine aK (co 66 2 [] 7 [2] rfl (fI _ _) (by simp) (W_loopM 158 [16,18,19,20,21,22,23,24,77,78,79,80,81,82,83,84,85,86,87,88,89,90,91,92,93,94,95,96,97,98,99,100,101,102,103,104,105,106,107,108,109,110,111,112,113,114,115,116,117,118,119,120,121,122,123,124,125,126,127,128,129,130,131,132,133,134,135,136,137,138,139,140,141,142,143,144,145,146,147,148,149,150,151,152,153,154,155,156,157] (by simp[mB]<;>rfl) (σ:=Nat) (fun i=>i≤m) (fun i=>m-i) (fun i=>[(77,.int .i64 i),(16,.int .i64 (ij u (dI c (i*n))))]) (fun i=>[B.cells [.str t.name,.lst 1 ff (t.attrs.map V.str),.lst 2 gg (t.rows.map aN)],B.cells [.str ByteArray.empty,.nilS,.nilS],B.cells [.str t.name,.lst 1 ff (t.attrs.map V.str),.lst 2 gg (t.rows.map aN)],B.cells [.int .i64 n,.buf 4 0 N N,.buf 5 0 N N],B.buf 3 1 (paL P) false,B.buf 113 1 (knL q.K N) false,B.map (.int .i64) (mF ez us),B.cells [.str t.name,.lst 1 false (t.attrs.map V.str),.buf 9 0 i i],B.map (.int .i64) (mF (fy u c) (toI (nmL c r (i*n)))),B.buf 66 2 ((rwTo t c i).map aN) false]) 0 (by omega) (by simp[dI,ij]) (by simp[nmL_zero,toI,mF_nil,rwTo]) (by simp) ?_));intro i hi N3 Q3 hN3 hQ3;by_cases hib:i<m
    ·have hit:i<t.rows.length:=by omega
     obtain⟨rw,hrw⟩:∃rw,rw=t.rows[i]:=⟨_,rfl⟩;have hrw':=hrw.symm
     have hvl:rw.vals.length=n:=by rw[hrw,hne];exact hv.len _ (List.getElem_mem hit)
     refine wx ?_;simp -implicitDefEqProofs -dsimp[hib,hme',hit,hrw',aN,LV,hne'];refine aK (co 68 3 [] 11 [1] rfl (fI _ _) (by simp) (W_loopM 151 [16,21,22,23,24,88,89,90,91,92,93,94,95,96,97,98,99,100,101,102,103,104,105,106,107,108,109,110,111,112,113,114,115,116,117,118,119,120,121,122,123,124,125,126,127,128,129,130,131,132,133,134,135,136,137,138,139,140,141,142,143,144,145,146,147,148,149,150] (by simp[mB]<;>rfl) (σ:=Nat×Nat) (fun p=>p.1≤n∧p.2=i*n+p.1) (fun p=>n-p.1) (fun p=>[(88,.int .i64 p.1),(16,.int .i64 (ij u (dI c p.2)))]) (fun p=>[B.cells [.str t.name,.lst 1 ff (t.attrs.map V.str),.lst 2 gg (t.rows.map aN)],B.cells [.str ByteArray.empty,.nilS,.nilS],B.cells [.str t.name,.lst 1 ff (t.attrs.map V.str),.lst 2 gg (t.rows.map aN)],B.cells [.int .i64 n,.buf 4 0 N N,.buf 5 0 N N],B.buf 3 1 (paL P) false,B.buf 113 1 (knL q.K N) false,B.map (.int .i64) (mF ez us),B.cells [.str t.name,.lst 1 false (t.attrs.map V.str),.buf 9 0 i i],B.map (.int .i64) (mF (fy u c) (toI (nmL c r p.2))),B.buf 66 2 ((rwTo t c i).map aN) false,B.cells [.int .i64 rw.id,.lst 3 false (rw.vals.map am)],B.cells [.int .i64 rw.id,.buf 12 0 p.1 p.1],B.buf 68 3 ((nW u c (i*n) p.1).map am) false]) (0,i*n) ⟨by simp,by simp⟩ (by simp) (by simp[nW]) (by simp) ?_));rintro⟨a,x⟩ ⟨ha,hx⟩ N4 Q4 hN4 hQ4;simp only at ha hx hN4;by_cases hab:a<n
     ·have hlt:x<N:=by rw[hx,hNe];exact bB hib hab
      have hltq:x<q.m*q.n:=by rw[hqN];exact hlt
      have hrlt:r x<N:=by have:=f.lt x hltq;rw[hqN]at this;exact this
      have hkl:=lS q.K N
      have hkg:=fun h=>lT q.K (N:=N) (x:=r x) h
      have hvlen:=vlTo_len u c (i*n) a;have hvs:=vlTo_succ u c (i*n) a;rw[←hx]at hvs;have hrkl:=rank_le c x;obtain⟨nu1,nu2⟩:=hnum (dI c x);obtain⟨yi,hyi⟩:∃yi,yi=i*n:=⟨_,rfl⟩
      have w1:IntKind.i64.wrap ((i:Int)*n)=(yi:Int):=by rw[hyi,wrap64 (by rw[←Int.natCast_mul];omega) (by rw[←Int.natCast_mul];omega)];push_cast;rfl
      have w2:IntKind.i64.wrap ((yi:Int)+(a:Int))=(x:Int):=by rw[wrap64 (by omega) (by omega)];omega
      rw[←hyi]at hvlen hvs ⊢;obtain⟨vl,hvle⟩:∃vl,vl=nW u c yi a:=⟨_,rfl⟩;rw[←hvle]at hvlen hvs;rw[←hvle]
      cases hK:q.K (r x) with
      | some v =>
       skip
       have hcx:c x = .inl v:=by rw[hc];unfold eA;rw[hK]
       have hno:¬(eE (c x)∧fp c x=x):=fun h=>isSym_inl hcx h.1
       have hrk:=rank_old hno;have hnm:=nmL_old (r:=r) hno;rw[out_inl hcx]at hvs;rw[hK]at hkg;refine wx ?_;simp -implicitDefEqProofs -dsimp[hab,hne',w1,w2];refine dY (root_at f hqN (by omega) rfl rfl rfl (by simp) x hlt) ?_;rintro r' H' ⟨rfl,rfl⟩;simp -implicitDefEqProofs -dsimp[hkl,hrlt,hkg,fK,eZ];refine aK (ai tok mixed [12,14] [] [] (by kernel_rfl) fun C K hC hK=>?_);simp -implicitDefEqProofs [hkl,hrlt,hkg,fK,hvlen,jd a (by omega)];refine hK _ _ ?_;simp -implicitDefEqProofs -dsimp[aM a (by omega)];refine hN4 (a+1,x+1) _ _ ⟨by simp only;omega,by simp only;omega⟩ (by simp only;omega) (by simp[hrk]) ⟨[],by simp[hnm,←hyi,hvs,am]⟩ (by simp) (by simp)
      | none =>
       have hsx:eE (c x):=by rw[hc];unfold eA;rw[hK];exact⟨r x,rfl⟩
       have hsx':eE (eA q r x):=by rw[←hc];exact hsx
       have hrr:r (r x)=r x:=f.self (r x) (by rw[hqN];exact hrlt) (f.root x hltq)
       have hcr:c (r x)=c x:=by rw[hc];unfold eA;rw[hrr]
       have hcls2:cls u c (r x)=cls u c x:=cls_uniq hcr;have hmem:=nmL_mem hsx';rw[←hc]at hmem;rw[out_inr hsx]at hvs;rw[hK]at hkg;by_cases hfp:fp c x=x
       ·have hno:¬r x∈nmL c r x:=fun hm=>hmem.1 hm hfp
        have hf:=lZ (enc:=fy u c) (i:=0) (toI_no hno);have hrk:=rank_new hsx hfp;have hnm:=nmL_new (r:=r) hsx hfp;have hcl:=cls_new (u:=u) hfp;obtain⟨nx1,nx2⟩:=nxt_ok hu1 (ij u (dI c x))
        have hnp:ij u (dI c (x+1))=cls u c x:=by rw[hrk,hcl];rfl
        rw[←hcl]at nx1 nx2;obtain⟨n0,hn0⟩:∃n0,n0=ij u (dI c x):=⟨_,rfl⟩;obtain⟨nx,hnx⟩:∃nx,nx=cls u c x:=⟨_,rfl⟩;rw[←hnx]at nx1 nx2 hnp hvs hcls2;rw[←hn0]at nx1 nx2 nu1 nu2
        have hsn:mF (fy u c) (toI (nmL c r x))++[(V.int .i64 (r x:Int),V.agg [.int .i64 3,.int .i64 nx,.str ByteArray.empty])]=mF (fy u c) (toI (nmL c r (x+1))):=by
         rw[hnm,toI_snoc,mF_snoc];simp[fy,hcls2]
        have hm2:il (toI (nmL c r (x+1))) (r x:Int)=true:=toI_mem.2 (by rw[hnm];simp);obtain⟨j,hf2,_⟩:=iH (enc:=fy u c) (i:=0) hm2;rw[Nat.zero_add]at hf2
        have henc:fy u c (r x:Int)=V.agg [.int .i64 3,.int .i64 nx,.str ByteArray.empty]:=by simp[fy,hcls2]
        rw[henc]at hf2;have hn0':=hn0.symm;refine wx ?_;simp -implicitDefEqProofs -dsimp[hab,hne',w1,w2];refine dY (root_at f hqN (by omega) rfl rfl rfl (by simp) x hlt) ?_;rintro r' H' ⟨rfl,rfl⟩;simp -implicitDefEqProofs -dsimp[hkl,hrlt,hkg,fK,eZ,hf,hn0',wrap64 (n:=n0+1) (by omega) (by omega)];refine aK (W_loopM 138 [16,123,126,133,134,135,136,137] (by simp[mB]<;>rfl) (σ:=Int) (fun k=>n0<k∧k≤nx) (fun k=>(nx-k).toNat) (fun k=>[(16,.int .i64 k)]) (fun _=>[B.cells [.str t.name,.lst 1 ff (t.attrs.map V.str),.lst 2 gg (t.rows.map aN)],B.cells [.str ByteArray.empty,.nilS,.nilS],B.cells [.str t.name,.lst 1 ff (t.attrs.map V.str),.lst 2 gg (t.rows.map aN)],B.cells [.int .i64 n,.buf 4 0 N N,.buf 5 0 N N],B.buf 3 1 (paL P) false,B.buf 113 1 (knL q.K N) false,B.map (.int .i64) (mF ez us),B.cells [.str t.name,.lst 1 false (t.attrs.map V.str),.buf 9 0 i i],B.map (.int .i64) (mF (fy u c) (toI (nmL c r (x)))),B.buf 66 2 ((rwTo t c i).map aN) false,B.cells [.int .i64 rw.id,.lst 3 false (rw.vals.map am)],B.cells [.int .i64 rw.id,.buf 12 0 a a],B.buf 68 3 (vl.map am) false,B.cells [.int .i64 0,.int .i64 0,.str ByteArray.empty]]) (n0+1) ⟨by omega,by have:=nx1.gt;omega⟩ (by simp) (by simp) (by simp) ?_);rintro k ⟨hk1,hk2⟩ N5 Q5 hN5 hQ5;have huk:=hus k;by_cases hkx:k=nx
        ·subst hkx;rw[nx1.free]at huk;have hf3:=lZ (enc:=ez) (i:=0) huk;refine wx ?_;simp -implicitDefEqProofs -dsimp[hf3];refine hQ5 _ _ _ ?_;simp -implicitDefEqProofs -dsimp[hf,hsn,hf2,hvlen,jd a (by omega),aM a (by omega)];refine hN4 (a+1,x+1) _ _ ⟨by simp only;omega,by simp only;omega⟩ (by simp only;omega) (by simp[hnp]) ⟨[B.cells [.int .i64 0,.int .i64 0,.str ByteArray.empty]],by simp[←hyi,hvs,am]⟩ (by simp) (by simp)
        ·rw[nx1.all k hk1 (by omega)]at huk;obtain⟨j3,hf3,_⟩:=iH (enc:=ez) (i:=0) huk;rw[Nat.zero_add,show ez k=V.bool true from rfl]at hf3;refine wx ?_;simp -implicitDefEqProofs -dsimp[hf3,wrap64 (n:=k+1) (by omega) (by omega)];refine hN5 (k+1) _ _ ⟨by omega,by omega⟩ (by omega) (by simp) ⟨[],by simp⟩ (by simp) (by simp)
       ·skip
        have hyes:r x∈nmL c r x:=hmem.2 hfp;obtain⟨j,hf,_⟩:=iH (enc:=fy u c) (i:=0) (toI_mem.2 hyes);rw[Nat.zero_add]at hf
        have henc:fy u c (r x:Int)=V.agg [.int .i64 3,.int .i64 (cls u c x),.str ByteArray.empty]:=by simp[fy,hcls2]
        rw[henc]at hf
        have hno:¬(eE (c x)∧fp c x=x):=fun h=>hfp h.2
        have hrk:=rank_old hno;have hnm:=nmL_old (r:=r) hno;refine wx ?_;simp -implicitDefEqProofs -dsimp[hab,hne',w1,w2];refine dY (root_at f hqN (by omega) rfl rfl rfl (by simp) x hlt) ?_;rintro r' H' ⟨rfl,rfl⟩;simp -implicitDefEqProofs -dsimp[hkl,hrlt,hkg,fK,eZ,hf,hvlen,jd a (by omega),aM a (by omega)];refine hN4 (a+1,x+1) _ _ ⟨by simp only;omega,by simp only;omega⟩ (by simp only;omega) (by simp[hrk]) ⟨[B.cells [.int .i64 3,.int .i64 (cls u c x),.str ByteArray.empty]],by simp[hnm,←hyi,hvs,am]⟩ (by simp) (by simp)
     ·obtain rfl:a=n:=by omega
      have hvlen:=vlTo_len u c (i*a) a
      have hxe:(i+1)*a=x:=by rw[Nat.add_mul];omega
      have hrl:=rwTo_len t c i;have hrs:=rwTo_succ t c i
      have hfr:aN (jY t c i)= .agg [.int .i64 rw.id,.lst 3 false ((nW u c (i*a) a).map am)]:=by
       rw[filRow_eq,bF hit,←hrw,←hne,←hu];rfl
      refine jh 12 [] 11 [1] rfl rfl (by simp) (by simp[hvlen]) ?_;refine wx ?_;simp -implicitDefEqProofs -dsimp[hab,hne'];refine hQ4 _ _ _ ?_;simp -implicitDefEqProofs -dsimp[hrl,jd i (by omega),aM i (by omega)];refine hN3 (i+1) _ _ (by omega) (by omega) (by simp[hxe]) ⟨[B.cells [.int .i64 rw.id,.lst 3 false (rw.vals.map am)],B.cells [.int .i64 rw.id,.lst 3 false ((nW u c (i*a) a).map am)],B.buf 68 3 ((nW u c (i*a) a).map am) true],by simp[hxe,hrs,hfr]⟩ (by simp) (by simp)
    ·obtain rfl:i=m:=by omega
     have hrl:=rwTo_len t c i;refine jh 9 [] 7 [2] rfl rfl (by simp) (by simp[hrl]) ?_;refine wx ?_;simp -implicitDefEqProofs -dsimp[hib,hme'];refine hQ3 _ _ _ ?_;simp -implicitDefEqProofs -dsimp[];rw[hfT];simp[aF,LS,LR,jX,rwTo,hme]
 ·rw[if_neg h];refine aC (aD tok Tryz.func22 rfl rfl ?_);refine wx ?_;simp -implicitDefEqProofs -dsimp[Tryz.f22,List.replicate,aF,LS,LR,LC,LF];refine(aG (c1) (by simp)).mono ?_;rintro r H' ⟨rfl,rfl⟩;simp -implicitDefEqProofs -dsimp[h];rfl
section
def cF(t u:Tb)(x:Nat):List Cr:=((List.range x).filter fun y=>!(gE (bL t y) (bL u y)== 0)).map (bN t)
theorem pm(t u:Tb):cF t u 0=[]:=rfl
theorem difTo_same{t u:Tb}{x:Nat}(h:gE (bL t x) (bL u x)=0):cF t u (x+1)=cF t u x:=by
 unfold cF;rw[List.range_succ,List.filter_append];simp[h]
theorem difTo_new{t u:Tb}{x:Nat}(h:gE (bL t x) (bL u x)≠0):cF t u (x+1)=cF t u x++[bN t x]:=by
 unfold cF;rw[List.range_succ,List.filter_append];simp[h]
theorem difTo_len(t u:Tb)(x:Nat):(cF t u x).length≤x:=by
 unfold cF;rw[List.length_map];exact Nat.le_trans (List.length_filter_le _ _) (by simp)
theorem differing_u(t u:Tb)(f g f2 g2:Bool)(hv:TbV t)(ha:u.attrs.length=t.attrs.length)(hr:u.rows.length=t.rows.length)(hul:∀r∈u.rows,r.vals.length=t.attrs.length):
  aS Tryz.prog 58 [aF f g t,aF f2 g2 u] fun r=>r=LC false (cF t u (t.rows.length*t.attrs.length)):=by
 have hm:=hv.rows;have hn:=hv.attrs;obtain⟨n,hne⟩:∃n,n=t.attrs.length:=⟨_,rfl⟩;obtain⟨m,hme⟩:∃m,m=t.rows.length:=⟨_,rfl⟩;have hne':=hne.symm;have hme':=hme.symm;rw[hne']at hn;rw[hme']at hm;rw[hne',hme'];refine aC (aD tok Tryz.func58 rfl rfl ?_);refine wx ?_;simp -implicitDefEqProofs -dsimp[Tryz.f58,List.replicate,aF,LS,LR,hme'];refine aK (gG 49 2 [5] (by simp) (W_loopM 47 [5,6,7,8,9,13,14,15,16,17,18,19,20,21,22,23,24,25,26,27,28,29,30,31,32,33,34,35,36,37,38,39,40,41,42,43,44,45,46] (by simp[mB]<;>rfl) (σ:=Nat×Nat) (fun p=>p.1≤m∧p.2=p.1*n) (fun p=>m-p.1) (fun p=>[(13,.int .i64 p.1),(5,.buf 2 0 (cF t u p.2).length (cF t u p.2).length)]) (fun p=>[B.cells [.str t.name,.lst 1 f (t.attrs.map V.str),.lst 2 g (t.rows.map aN)],B.cells [.str u.name,.lst 1 f2 (u.attrs.map V.str),.lst 2 g2 (u.rows.map aN)],B.buf 49 2 ((cF t u p.2).map aO) false]) (0,0) ⟨by simp,by simp⟩ (by simp[pm]) (by simp[pm]) (by simp) ?_));rintro⟨i,c⟩ ⟨hi,hc⟩ N1 Q1 hN1 hQ1;simp only at hi hc hN1;by_cases hib:i<m
 ·have hit:i<t.rows.length:=by omega
  have hiu:i<u.rows.length:=by omega
  obtain⟨rw,hrw⟩:∃rw,rw=t.rows[i]:=⟨_,rfl⟩;obtain⟨ru,hru⟩:∃ru,ru=u.rows[i]:=⟨_,rfl⟩;have hrw':=hrw.symm;have hru':=hru.symm
  have hvl:rw.vals.length=n:=by rw[hrw,hne];exact hv.len _ (List.getElem_mem hit)
  have hvu:ru.vals.length=n:=by rw[hru,hne];exact hul _ (List.getElem_mem hiu)
  refine wx ?_;simp -implicitDefEqProofs -dsimp[hib,hme',hit,hrw',aN,LV,hvl];refine aK (W_loopM 46 [5,8,9,21,22,23,24,25,26,27,28,29,30,31,32,33,34,35,36,37,38,39,40,41,42,43,44,45] (by simp[mB]<;>rfl) (σ:=Nat×Nat) (fun p=>p.1≤n∧p.2=i*n+p.1) (fun p=>n-p.1) (fun p=>[(21,.int .i64 p.1),(5,.buf 2 0 (cF t u p.2).length (cF t u p.2).length)]) (fun p=>[B.cells [.str t.name,.lst 1 f (t.attrs.map V.str),.lst 2 g (t.rows.map aN)],B.cells [.str u.name,.lst 1 f2 (u.attrs.map V.str),.lst 2 g2 (u.rows.map aN)],B.buf 49 2 ((cF t u p.2).map aO) false,B.cells [.int .i64 rw.id,.lst 3 false (rw.vals.map am)]]) (0,c) ⟨by simp,by simp[hc]⟩ (by simp) (by simp) (by simp) ?_);rintro⟨a,x⟩ ⟨ha2,hx⟩ N2 Q2 hN2 hQ2;simp only at ha2 hx hN2;by_cases hab:a<n
  ·have hlt:=bB hib hab;have hbig:m*n≤1000*16:=Nat.mul_le_mul hm hn
   have hva:a<rw.vals.length:=by omega
   have hva2:a<ru.vals.length:=by omega
   obtain⟨v,hve⟩:∃v,v=rw.vals[a]:=⟨_,rfl⟩;obtain⟨w,hwe⟩:∃w,w=ru.vals[a]:=⟨_,rfl⟩;have hve':=hve.symm;have hwe':=hwe.symm
   have hvt:bL t x=v:=by
    rw[hx,hne,fD t (hne▸hab),bF hit,←hrw,gV hva,hve]
   have hvu2:bL u x=w:=by
    rw[hx,hne,←ha,fD u (by omega),bF hiu,←hru,gV hva2,hwe]
   have hat:bN t x=⟨rw.id,(a:Int)⟩:=by
    rw[hx,hne,gS t (hne▸hab),bF hit,←hrw]
   have hdl:=difTo_len t u x;have c1:=iT v w;simp only[am]at c1;by_cases hq:gE v w=0
   ·have hst:=difTo_same (t:=t) (u:=u) (x:=x) (by rw[hvt,hvu2];exact hq);refine wx ?_;simp -implicitDefEqProofs -dsimp[hab,hvl,hva,hve',am,hiu,hru',aN,LV,hva2,hwe'];refine .inr ⟨aJ (by kernel_rfl),?_⟩;refine aj _ (aG (c1) (by simp)) ?_;simp -implicitDefEqProofs -dsimp[hq,aM a (by omega)];refine hN2 (a+1,x+1) _ _ ⟨by simp only;omega,by simp only;omega⟩ (by simp only;omega) (by simp[hst]) ⟨[B.cells [.int .i64 v.k,.int .i64 v.n,.str v.s]],by simp[hst]⟩ (by simp) (by simp)
   ·have hst:=difTo_new (t:=t) (u:=u) (x:=x) (by rw[hvt,hvu2];exact hq);rw[hat]at hst;refine wx ?_;simp -implicitDefEqProofs -dsimp[hab,hvl,hva,hve',am,hiu,hru',aN,LV,hva2,hwe'];refine .inr ⟨aJ (by kernel_rfl),?_⟩;refine aj _ (aG (c1) (by simp)) ?_;simp -implicitDefEqProofs -dsimp[hq,je (cF t u x).length (by omega),aM a (by omega)];refine hN2 (a+1,x+1) _ _ ⟨by simp only;omega,by simp only;omega⟩ (by simp only;omega) (by simp[hst]) ⟨[B.cells [.int .i64 v.k,.int .i64 v.n,.str v.s]],by simp[hst,aO]⟩ (by simp) (by simp)
  ·obtain rfl:a=n:=by omega
   refine wx ?_;simp -implicitDefEqProofs -dsimp[hab,hvl];refine hQ2 _ _ _ ?_;simp -implicitDefEqProofs -dsimp[aM i (by omega)];refine hN1 (i+1,x) _ _ ⟨by simp only;omega,by simp only;rw[hx,Nat.add_mul];omega⟩ (by simp only;omega) (by simp) ⟨[B.cells [.int .i64 rw.id,.lst 3 false (rw.vals.map am)]],by simp⟩ (by simp) (by simp)
 ·obtain rfl:i=m:=by omega
  refine wx ?_;simp -implicitDefEqProofs -dsimp[hib,hme'];refine hQ1 _ _ _ ?_;simp -implicitDefEqProofs -dsimp[];rw[←hc];exact dr rfl (by simp) (by simp)
theorem filT_rows(t:Tb)(c:Nat→Dm):(jX t c).rows.length=t.rows.length:=by simp[jX]
theorem filT_len(t:Tb)(c:Nat→Dm):∀r∈(jX t c).rows,r.vals.length=t.attrs.length:=by
 intro r hr;obtain⟨i,_,rfl⟩:=List.mem_map.1 hr;simp[jY]
def SatP(u:Tb)(fds:List Fd):Prop:=∀d∈fds,∀i k,i<u.rows.length→k<i→cK (cI u i) (cI u k) d.l=true→cK (cI u i) (cI u k) d.r=true
open Classical in
noncomputable def satB(u:Tb)(fds:List Fd):Bool:=decide (SatP u fds)
theorem lE{u:Tb}{fds:List Fd} : satB u fds=true↔SatP u fds:=by unfold satB;simp
theorem satisfies_r(u:Tb)(f g df:Bool)(fds:List Fd)(hr:u.rows.length≤1000)(hul:∀r∈u.rows,r.vals.length≤31∧∀v∈r.vals,v.s.size≤maxLen)(hF:fds.length≤1000000):
  aS Tryz.prog 27 [aF f g u,LF df fds] fun r=>r = .bool (satB u fds):=by
 obtain⟨E,hE⟩:∃E,E=satB u fds:=⟨_,rfl⟩;rw[←hE];obtain⟨m,hme⟩:∃m,m=u.rows.length:=⟨_,rfl⟩;have hme':=hme.symm;rw[hme']at hr
 have hyes:SatP u fds→E=true:=fun h=>by rw[hE];exact lE.2 h
 have hno:¬SatP u fds→E=false:=fun h=>by
  rw[hE];cases hb:satB u fds
  ·rfl
  ·exact absurd (lE.1 hb) h
 refine aC (aD tok Tryz.func27 rfl rfl ?_);refine wx ?_;simp -implicitDefEqProofs -dsimp[Tryz.f27,List.replicate,aF,LS,LR,LF];refine aK (W_loopM 61 [4,5,6,7,8,9,10,11,12,13,14,15,16,17,18,19,20,21,22,23,24,25,26,27,28,29,30,31,32,33,34,35,36,37,38,39,40,41,42,43,44,45,46,47,48,49,50,51,52,53,54,55,56,57,58,59,60] (by simp[mB]<;>rfl) (σ:=Nat) (fun j=>j≤fds.length∧∀d∈fds.take j,∀i k,i<m→k<i→cK (cI u i) (cI u k) d.l=true→cK (cI u i) (cI u k) d.r=true) (fun j=>fds.length-j) (fun j=>[(5,.int .i64 j)]) (fun _=>[B.cells [.str u.name,.lst 1 f (u.attrs.map V.str),.lst 2 g (u.rows.map aN)]]) 0 ⟨by omega,by simp⟩ (by simp) rfl (by simp) ?_);rintro j ⟨hj,hx⟩ N1 Q1 hN1 hQ1;by_cases hjb:j<fds.length
 ·obtain⟨d,hd⟩:∃d,d=fds[j]:=⟨_,rfl⟩;have hd':=hd.symm;have hdm:d∈fds:=hd▸List.getElem_mem hjb;refine wx ?_;simp -implicitDefEqProofs -dsimp[hjb];refine aK (W_loopM 61 [4,6,7,14,15,16,17,18,19,20,21,22,23,24,25,26,27,28,29,30,31,32,33,34,35,36,37,38,39,40,41,42,43,44,45,46,47,48,49,50,51,52,53,54,55,56,57,58,59,60] (by simp[mB]<;>rfl) (σ:=Nat) (fun i=>i≤m∧∀i' k,i'<i→k<i'→cK (cI u i') (cI u k) d.l=true→cK (cI u i') (cI u k) d.r=true) (fun i=>m-i) (fun i=>[(6,.int .i64 i)]) (fun _=>[B.cells [.str u.name,.lst 1 f (u.attrs.map V.str),.lst 2 g (u.rows.map aN)]]) 0 ⟨by omega,fun i' k h=>by omega⟩ (by simp) (by simp) (by simp) ?_);rintro i ⟨hi,hx2⟩ N2 Q2 hN2 hQ2;by_cases hib:i<m
  ·have hit:i<u.rows.length:=by omega
   have ri:=bF hit;refine wx ?_;simp -implicitDefEqProofs -dsimp[hib,hme'];refine aK (W_loopM 61 [4,7,21,22,23,24,25,26,27,28,29,30,31,32,33,34,35,36,37,38,39,40,41,42,43,44,45,46,47,48,49,50,51,52,53,54,55,56,57,58,59,60] (by simp[mB]<;>rfl) (σ:=Nat) (fun k=>k≤i∧∀k',k'<k→cK (cI u i) (cI u k') d.l=true→cK (cI u i) (cI u k') d.r=true) (fun k=>i-k) (fun k=>[(7,.int .i64 k)]) (fun _=>[B.cells [.str u.name,.lst 1 f (u.attrs.map V.str),.lst 2 g (u.rows.map aN)]]) 0 ⟨by omega,fun k h=>by omega⟩ (by simp) (by simp) (by simp) ?_);rintro k ⟨hk,hx3⟩ N3 Q3 hN3 hQ3;by_cases hkb:k<i
   ·have hkt:k<u.rows.length:=by omega
    have rk:=bF hkt;obtain⟨l1,l2⟩:=hul u.rows[i] (List.getElem_mem hit);obtain⟨l3,l4⟩:=hul u.rows[k] (List.getElem_mem hkt);have c1:=agree03 u.rows[i] u.rows[k] (d.l:Int) l1 l3 l2;have c2:=agree03 u.rows[i] u.rows[k] (d.r:Int) l1 l3 l2
    have hstep:∀x y,cI u i=x→cI u k=y→(cK x y d.l=true→cK x y d.r=true)→∀k',k'<k+1→cK (cI u i) (cI u k') d.l=true→cK (cI u i) (cI u k') d.r=true:=fun x y e1 e2 h k' hk'=>by
     rcases Nat.lt_or_ge k' k with e | e
     ·exact hx3 k' e
     ·have:k'=k:=by omega
      subst this;rw[e1,e2];exact h
    have hbad:cK (cI u i) (cI u k) d.l=true→cK (cI u i) (cI u k) d.r=false→E=false:=fun h1 h2=>hno fun h=>by
     have:=h d hdm i k hit hkb h1;rw[h2]at this;cases this
    rw[ri,rk]at hbad;obtain⟨x,hxe⟩:∃x,x=u.rows[i]:=⟨_,rfl⟩;obtain⟨y,hye⟩:∃y,y=u.rows[k]:=⟨_,rfl⟩;rw[←hxe,←hye]at c1 c2 hbad;rw[←hxe]at ri;rw[←hye]at rk;have hxe':=hxe.symm;have hye':=hye.symm;simp only[aN,LV]at c1 c2
    cases q1:cK x y d.l with
    | false =>
     rw[q1]at c1;have hst:=hstep x y ri rk (fun h=>by rw[q1]at h;cases h);refine wx ?_;simp -implicitDefEqProofs -dsimp[hkb,hjb,hd',hit,hkt,hxe',hye',aN,LV,eP];refine .inr ⟨aJ (by kernel_rfl),?_⟩;refine aj _ (aG (c1) (by simp)) ?_;simp -implicitDefEqProofs -dsimp[aM k (by omega)];refine hN3 (k+1) _ _ ⟨by omega,hst⟩ (by omega) (by simp) ⟨[],by simp⟩ (by simp) (by simp)
    | true =>
     rw[q1]at c1
     cases q2:cK x y d.r with
     | true =>
      rw[q2]at c2;have hst:=hstep x y ri rk (fun _=>q2);refine wx ?_;simp -implicitDefEqProofs -dsimp[hkb,hjb,hd',hit,hkt,hxe',hye',aN,LV,eP];refine .inr ⟨aJ (by kernel_rfl),?_⟩;refine aj _ (aG (c1) (by simp)) ?_;simp -implicitDefEqProofs -dsimp[hjb,hd',hit,hkt,hxe',hye',aN,LV,eP];refine aj _ (aG (c2) (by simp)) ?_;simp -implicitDefEqProofs -dsimp[aM k (by omega)];refine hN3 (k+1) _ _ ⟨by omega,hst⟩ (by omega) (by simp) ⟨[],by simp⟩ (by simp) (by simp)
     | false =>
      rw[q2]at c2;have hb:=hbad q1 q2;refine wx ?_;simp -implicitDefEqProofs -dsimp[hkb,hjb,hd',hit,hkt,hxe',hye',aN,LV,eP];refine .inr ⟨aJ (by kernel_rfl),?_⟩;refine aj _ (aG (c1) (by simp)) ?_;simp -implicitDefEqProofs -dsimp[hjb,hd',hit,hkt,hxe',hye',aN,LV,eP];refine aj _ (aG (c2) (by simp)) ?_;simp -implicitDefEqProofs -dsimp[];refine hQ3 _ _ _ ?_;simp -implicitDefEqProofs -dsimp[];refine hQ2 _ _ _ ?_;simp -implicitDefEqProofs -dsimp[];refine hQ1 _ _ _ ?_;simp -implicitDefEqProofs -dsimp[];exact hb
   ·obtain rfl:k=i:=by omega
    refine wx ?_;simp -implicitDefEqProofs -dsimp[hkb];refine hQ3 _ _ _ ?_;simp -implicitDefEqProofs -dsimp[aM k (by omega)];refine hN2 (k+1) _ _ ⟨by omega,fun i' k' h1 h2=>?_⟩ (by omega) (by simp) ⟨[],by simp⟩ (by simp) (by simp)
    rcases Nat.lt_or_ge i' k with e | e
    ·exact hx2 i' k' e h2
    ·have:i'=k:=by omega
     subst this;exact hx3 k' h2
  ·obtain rfl:i=m:=by omega
   refine wx ?_;simp -implicitDefEqProofs -dsimp[hib,hme'];refine hQ2 _ _ _ ?_;simp -implicitDefEqProofs -dsimp[aM j (by omega)];refine hN1 (j+1) _ _ ⟨by omega,fun d' hd'=>?_⟩ (by omega) (by simp) ⟨[],by simp⟩ (by simp) (by simp);rw[List.take_succ_eq_append_getElem hjb]at hd'
   rcases List.mem_append.1 hd' with e | e
   ·exact hx d' e
   ·simp only[List.mem_singleton]at e;rw[e,←hd];exact hx2
 ·obtain rfl:j=fds.length:=by omega
  rw[List.take_length]at hx;refine wx ?_;simp -implicitDefEqProofs -dsimp[hjb];refine hQ1 _ _ _ ?_;simp -implicitDefEqProofs -dsimp[];exact hyes (by rw[SatP,←hme];exact hx)
end
section
theorem sol_map{q:Prob}{c:Nat→Dm}(h:Sol q c)(f:Dm→Dm)(hi:∀x y,x<q.m*q.n→y<q.m*q.n→f (c x)=f (c y)→c x=c y)(hf:∀x v,x<q.m*q.n→q.K x=some v→f (.inl v)= .inl v):Sol q (fun x=>f (c x)):=
 ⟨fun x v hx hk=>by
  show f (c x)=_
  rw[h.fix x v hx hk];exact hf x v hx hk,fun d hd i k hi' hk hl a ha hb=>congrArg f (h.dep d hd i k hi' hk (fun b hb1 hb2=>hi _ _ (bB hi' hb1) (bB (by omega) hb1) (hl b hb1 hb2)) a ha hb)⟩
theorem fresh(c:Nat→Dm):∀N:Nat,∃S,∀y s,y<N→c y = .inr s→s<S
 | 0=>⟨0,fun y s h=>by omega⟩
 | N+1=>by
  obtain⟨S,hS⟩:=fresh c N
  cases hc:c N with
  | inl v=>exact⟨S,fun y s hy h=>by
    rcases Nat.lt_or_ge y N with e | e
    ·exact hS y s e h
    ·have:y=N:=by omega
     subst this;rw[hc]at h;cases h⟩
  | inr s0=>exact⟨max S (s0+1),fun y s hy h=>by
    rcases Nat.lt_or_ge y N with e | e
    ·have:=hS y s e h;omega
    ·have:y=N:=by omega
     subst this;rw[hc]at h
     have:=Sum.inr.inj h;omega⟩
theorem GenS.val_in{q:Prob}{c:Nat→Dm}(h:GenS q c){x:Nat}{v:Vl}(hx:x<q.m*q.n)(hv:c x = .inl v):∃y,y<q.m*q.n∧q.K y=some v:=by
 refine Classical.byContradiction fun hno=>?_
 obtain⟨S,hS⟩:=fresh c (q.m*q.n)
 have hfr:∀y,y<q.m*q.n→c y≠.inr S:=fun y hy he=>by have:=hS y S hy he;omega
 obtain⟨f,f1,f2⟩:∃f:Dm→Dm,f (.inl v)= .inr S∧∀d,d≠.inl v→f d=d:=by
  refine⟨fun d=>open Classical in if d = .inl v then .inr S else d,if_pos rfl,fun d hd=>if_neg hd⟩
 have hs:=sol_map h.sol f (fun a b ha hb he=>by
  by_cases h1:c a = .inl v
  ·by_cases h2:c b = .inl v
   ·rw[h1,h2]
   ·rw[h1,f1,f2 _ h2]at he;exact absurd he.symm (hfr b hb)
  ·by_cases h2:c b = .inl v
   ·rw[h2,f1,f2 _ h1]at he;exact absurd he (hfr a ha)
   ·rwa [f2 _ h1,f2 _ h2]at he) (fun a w ha hk=>f2 _ (fun he=>hno ⟨a,ha,by rw[hk,Sum.inl.inj he]⟩))
 obtain⟨τ,ht⟩:=h.gen _ hs;have:=ht x hx;simp only[hv,f1,app]at this;cases this
theorem fh{t:Tb}{fds:List Fd}{l:List Cr}{x:Nat}{v:Vl}(h:(aW t fds l).K x=some v):v=bL t x∧bN t x∉l:=by
 by_cases hc:bN t x∈l
 ·rw[lI hc]at h;cases h
 ·rw[fT hc]at h;exact⟨(Option.some.inj h).symm,hc⟩
theorem vTo2_eq{us vs:List Vl}{s:Int} : ∀{i:Nat},fX us s i=fX vs s i↔∀k,k<i→ft s k=true→vAt us k=vAt vs k
 | 0=>by simp[fX]
 | i+1=>by
  have ih:=vTo2_eq (us:=us) (vs:=vs) (s:=s) (i:=i);simp only[fX]
  cases hb:ft s i with
  | true =>
   simp only[if_true];constructor
   ·intro h;obtain⟨h1,h2⟩:=List.append_inj' h rfl;intro k hk hs
    rcases Nat.lt_or_ge k i with e | e
    ·exact ih.1 h1 k e hs
    ·have:k=i:=by omega
     subst this
     exact List.cons.inj h2 |>.1
   ·intro h;rw[ih.2 (fun k hk hs=>h k (by omega) hs)];have:=h i (by omega) hb;unfold vAt at this;rw[this]
  | false =>
   simp only[Bool.false_eq_true,if_false];rw[ih];constructor
   ·intro h k hk hs
    rcases Nat.lt_or_ge k i with e | e
    ·exact h k e hs
    ·have:k=i:=by omega
     subst this;rw[hb]at hs;cases hs
   ·intro h k hk hs;exact h k (by omega) hs
theorem pt:∀{us vs:List Vl},fC us vs=0↔us=vs
 | [],[]=>by simp[fC]
 | [],_::_=>by simp[fC]
 | _::_,[]=>by simp[fC]
 | u::us,v::vs=>by
  rw[fC,List.cons.injEq];have h1:=dQ u v;have h2:=pt (us:=us) (vs:=vs);split
  ·rename_i h;rw[h2];exact⟨fun h3=>⟨h1.1 h,h3⟩,fun h3=>h3.2⟩
  ·rename_i h;exact⟨fun h3=>absurd h3 h,fun h3=>absurd (h1.2 h3.1) h⟩
theorem agreeR_iff{a b:Rw}{s:Int}(h:a.vals.length=b.vals.length):cK a b s=true↔∀k,k<a.vals.length→ft s k=true→vAt a.vals k=vAt b.vals k:=by
 unfold cK jH;rw[beq_iff_eq,pt,←h];exact vTo2_eq
theorem jq{t:Tb}{i a:Nat}(ha:a<t.attrs.length):vAt (cI t i).vals a=bL t (i*t.attrs.length+a):=(fD t ha).symm
theorem satP_iff{u:Tb}{fds:List Fd}(hl:∀r∈u.rows,r.vals.length=u.attrs.length)(hn:u.attrs.length≤16)(hF:bo fds):SatP u fds↔∀d∈fds,∀i k,i<u.rows.length→k<i→(∀a,a<u.attrs.length→d.l.testBit a=true→bL u (i*u.attrs.length+a)=bL u (k*u.attrs.length+a))→∀a,a<u.attrs.length→d.r.testBit a=true→bL u (i*u.attrs.length+a)=bL u (k*u.attrs.length+a):=by
 have key:∀(s:Nat),s<4294967296→∀i k,i<u.rows.length→k<i→(cK (cI u i) (cI u k) s=true↔∀a,a<u.attrs.length→s.testBit a=true→bL u (i*u.attrs.length+a)=bL u (k*u.attrs.length+a)):=fun s hs i k hi hk=>by
  have h1:(cI u i).vals.length=u.attrs.length:=by rw[bF hi];exact hl _ (List.getElem_mem hi)
  have h2:(cI u k).vals.length=u.attrs.length:=by rw[bF (show k<u.rows.length by omega)];exact hl _ (List.getElem_mem _)
  rw[agreeR_iff (by rw[h1,h2]),h1];constructor
  ·intro h a ha hb;rw[←jq ha,←jq ha];exact h a ha (by rw[eG _ _ hs (by omega)];exact hb)
  ·intro h a ha hb;rw[jq ha,jq ha];exact h a ha (by rw[eG _ _ hs (by omega)]at hb;exact hb)
 unfold SatP;constructor
 ·intro h d hd i k hi hk hl;obtain⟨b1,b2⟩:=hF.2 d hd;exact(key d.r b2 i k hi hk).1 (h d hd i k hi hk ((key d.l b1 i k hi hk).2 hl))
 ·intro h d hd i k hi hk hl;obtain⟨b1,b2⟩:=hF.2 d hd;exact(key d.r b2 i k hi hk).2 (h d hd i k hi hk ((key d.l b1 i k hi hk).1 hl))
open Classical in
noncomputable def pick(p:Vl→Prop)(r:Nat→Prop):Dm:=if h:∃v,p v then .inl h.choose else .inr (Classical.epsilon r)
theorem genS_ok{q:Prob}(h:Okq q):∃c,GenS q c:=by
 obtain⟨σ0,h0⟩:=h
 let Fq:Nat→Nat→Prop:=fun x y=>∀σ,Sol q σ→σ x=σ y
 let Vq:Nat→Vl→Prop:=fun x v=>∀σ,Sol q σ→σ x = .inl v
 let c:Nat→Dm:=fun x=>pick (Vq x) (fun y=>Fq y x)
 have hc:∀x,c x=pick (Vq x) (fun y=>Fq y x):=fun _=>rfl
 have h1:∀x y,Fq x y→c x=c y:=fun x y hf=>by
  have e1:Vq x=Vq y:=funext fun v=>propext ⟨fun g σ hσ=>by rw[←hf σ hσ];exact g σ hσ,fun g σ hσ=>by rw[hf σ hσ];exact g σ hσ⟩
  have e2:(fun z=>Fq z x)=fun z=>Fq z y:=funext fun z=>propext ⟨fun g σ hσ=>(g σ hσ).trans (hf σ hσ),fun g σ hσ=>(g σ hσ).trans (hf σ hσ).symm⟩
  rw[hc,hc,e1,e2]
 have h2:∀x v,c x = .inl v→Vq x v:=fun x v he=>by
  rw[hc]at he;unfold pick at he;split at he
  ·rename_i hv;have:=hv.choose_spec;rw[Sum.inl.inj he]at this;exact this
  ·cases he
 have h3:∀x s,c x = .inr s→Fq s x:=fun x s he=>by
  rw[hc]at he;unfold pick at he;split at he
  ·cases he
  ·have hx:∃y,Fq y x:=⟨x,fun _ _=>rfl⟩;have:=Classical.epsilon_spec hx;rw[Sum.inr.inj he]at this;exact this
 have h4:∀x y,c x=c y→Fq x y:=fun x y he σ hσ=>by
  cases hx:c x with
  | inl v=>rw[h2 x v hx σ hσ,h2 y v (he▸hx) σ hσ]
  | inr s=>rw[←h3 x s hx σ hσ,h3 y s (he▸hx) σ hσ]
 refine⟨c,⟨fun x v hx hk=>?_,fun d hd i k hi hk hl a ha hb=>h1 _ _ fun σ hσ=>hσ.dep d hd i k hi hk (fun b hb1 hb2=>h4 _ _ (hl b hb1 hb2) σ hσ) a ha hb⟩,fun σ hσ=>⟨σ,fun x hx=>?_⟩⟩
 ·have hV:Vq x v:=fun σ hσ=>hσ.fix x v hx hk
  cases hcx:c x with
  | inl w =>
   have:=h2 x w hcx σ0 h0;rw[hV σ0 h0]at this;exact this.symm
  | inr s =>
   rw[hc]at hcx;unfold pick at hcx;rw[dif_pos ⟨v,hV⟩]at hcx;cases hcx
 ·cases hcx:c x with
  | inl w=>exact h2 x w hcx σ hσ
  | inr s=>exact(h3 x s hcx σ hσ).symm
theorem vl_of{x:Rcp}{n:Nat} : ∀r∈(oM x n).rows,∀v∈r.vals,∃m,v=ofV m:=by
 intro r hr v hv;obtain⟨i,hi,rfl⟩:=List.mem_map.1 hr;obtain⟨j,_,rfl⟩:=List.mem_map.1 hv;exact⟨_,rfl⟩
theorem ofV_n(m:Int):(ofV m).n≤7∧(ofV m).s.size≤2:=by
 unfold ofV
 repeat' split
 all_goals exact⟨by decide,by decide⟩
theorem CsV.num{c:Cs}(v:CsV c):TbN (csT c):=by
 intro y hy
 have hn:0<(csT c).attrs.length:=by
  rcases Nat.eq_zero_or_pos (csT c).attrs.length with h | h
  ·rw[h]at hy;omega
  ·exact h
 have hm:y / (csT c).attrs.length<(csT c).rows.length:=by rw[Nat.div_lt_iff_lt_mul hn];exact hy
 unfold bL;rw[bF hm];have hl:=v.tv.len _ (List.getElem_mem hm)
 have ha:y % (csT c).attrs.length<(csT c).rows[y / (csT c).attrs.length].vals.length:=by rw[hl];exact Nat.mod_lt _ hn
 rw[gV ha];obtain⟨k,hk⟩:=vl_of _ (List.getElem_mem hm) _ (List.getElem_mem ha);rw[hk];have:=(ofV_n k).1;omega
theorem out_size{t:Tb}{fds:List Fd}{l:List Cr}{c:Nat→Dm}(h:GenS (aW t fds l) c)(hs:∀y,y<t.rows.length*t.attrs.length→(bL t y).s.size≤maxLen){x:Nat}(hx:x<t.rows.length*t.attrs.length):(ka (mS t) c x).s.size≤maxLen:=by
 by_cases h1:eE (c x)
 ·rw[out_inr h1];exact Nat.zero_le _
 ·obtain⟨v,hv⟩:=not_isSym h1;rw[out_inl hv];obtain⟨z,hz,hk⟩:=h.val_in hx hv;rw[(fh hk).1];exact hs z hz
end
theorem dif_enough{t u:Tb}{fds:List Fd}{l:List Cr}(ha:u.attrs.length=t.attrs.length)(hr:u.rows.length=t.rows.length)(hul:∀r∈u.rows,r.vals.length=u.attrs.length)(hn:u.attrs.length≤16)(hF:bo fds)(hs:SatP u fds)
  (hd:∀x,x<t.rows.length*t.attrs.length→bN t x∉l→bL u x=bL t x):Okq (aW t fds l):=by
 rw[satP_iff hul hn hF]at hs;refine⟨fun x=>.inl (bL u x),fun x v hx hk=>?_,fun d hdm i k hi hk hl a hab hb=>?_⟩
 ·obtain⟨h1,h2⟩:=fh hk;rw[h1];exact congrArg _ (hd x hx h2)
 ·have:=hs d hdm i k (by rw[hr];exact hi) hk (fun a ha2 hb2=>by
   have h3:=hl a (show a<t.attrs.length by rw[←ha];exact ha2) hb2;have h4:(Sum.inl (bL u (i*t.attrs.length+a)):Dm)= .inl (bL u (k*t.attrs.length+a)):=h3;rw[ha]
   exact Sum.inl.inj h4) a (by rw[ha];exact hab) hb
  rw[ha]at this;exact congrArg Sum.inl this
end
end Go.Proofs.YteijbpppalhihaaGreat
