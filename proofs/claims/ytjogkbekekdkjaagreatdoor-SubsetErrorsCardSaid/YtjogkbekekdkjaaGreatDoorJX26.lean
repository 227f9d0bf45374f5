/- JX26: own texts of this seat, joined and shortened by pack4.py: H6. -/
import Derived.Test.YtjogkbekekdkjaaGreatDoorJX15
set_option linter.unusedVariables false
set_option linter.unusedSimpArgs false
set_option maxRecDepth 100000
set_option maxHeartbeats 64000000
open Bool renaming false_or→sf,true_or→uS
open Int renaming toNat_natCast→sT
open List renaming replicate→rO,take_of_length_le→rt,getElem?_set_ne→ry,length_cons→sB,length_set→se,set_set→tC,set_getElem_self→tw,take→uH
namespace Go.Proofs.YtjogkbekekdkjaaGreatDoor
section
open Go Go.AM
def encR(fl:Bool):Option (List Nde)→V
 | none=>.nilS
 | some l=>LNd fl l
@[simp] theorem encR_pure (fl:Bool) (o:Option (List Nde)):AM.Pure (encR fl o):=by cases o<;>simp[encR]
@[simp] theorem encR_oneV (fl:Bool) (o:Option (List Nde)):dV (encR fl o)=true:=by cases o<;>rfl
theorem encR_rb(n:Nat)(fl:Bool)(o:Option (List Nde)):rb1 n (encR fl o):=pc (encR_pure fl o) (by cases o<;>rfl)
theorem chk_nil(ws:List Int)(es:List (List Nat))(k:Nat)(m:List Nat)(b:Int):dH ws es k m [] b=(none,false):=by cases k<;>rfl
theorem oz(ws:List Int)(es:List (List Nat)):∀(k:Nat) (m:List Nat) (l:List Nde) (b:Int) (r:List Nde),(dH ws es k m l b).1=some r→r.length≤l.length
 | 0,m,l,b,r,h=>by simp[dH]at h
 | k+1,m,[],b,r,h=>by simp[dH]at h
 | k+1,m,x::l,b,r,h=>by
  rw[dH]at h;split at h
  ·simp only[Option.some.injEq]at h;subst h;simp
  ·split at h
   ·cases h
   ·split at h
    ·rename_i r' hr;have h1:=oz ws es k _ _ _ _ (congrArg Prod.fst hr);have h2:=oz ws es k _ _ _ _ h;simp;omega
    ·have:=oz ws es k _ _ _ _ h;simp;omega
theorem jv(ws:List Int)(es:List (List Nat)):∀(k:Nat) (m:List Nat) (l:List Nde) (b:Int),(dH ws es k m l b).2=true→∃r,(dH ws es k m l b).1=some r
 | 0,m,l,b,h=>by simp[dH]at h
 | k+1,m,[],b,h=>by simp[dH]at h
 | k+1,m,x::l,b,h=>by
  rw[dH]at h ⊢;split
  ·exact⟨_,rfl⟩
  ·rename_i h1;rw[if_neg h1]at h;split
   ·rename_i h2;rw[if_pos h2]at h;cases h
   ·rename_i h2;rw[if_neg h2]at h;have ih:=jv ws es k (m.set x.v.toNat 1) l (b-ws.getD x.v.toNat 0)
    revert h ih
    generalize dH ws es k (m.set x.v.toNat 1) l (b-ws.getD x.v.toNat 0)=p;obtain⟨p1,p2⟩:=p;cases p2
    ·intro h;cases p1<;>cases h
    ·cases p1 with
     | none=>intro _ ih;obtain⟨r,hr⟩:=ih rfl;cases hr
     | some r'=>intro h _;exact jv ws es k _ _ _ h
theorem SAt.back1{H:List B}{k0 km:Nat}{f g:Bool}{ws:List Int}{es:List (List Nat)}{n:Nat}{m:List Nat}{lf:Int}(s:SAt H k0 km f g ws es n m lf)(b:B):(H.set km b).set km (.buf 3 1 (nuL m) false)=H:=by
 have:=s.back b b;rw[tC,tC]at this;rw[tC];exact this
theorem check_h{k0 km:Nat}{f g:Bool}{ws:List Int}{es:List (List Nat)}{n:Nat}{lf:Int}(hb:HsB ws es)(fl:Bool)(k:Nat):∀(l:List Nde) (H:List B) (m:List Nat) (b:Int),SAt H k0 km f g ws es n m lf→l.length≤k→-9000000000000000000+1000000*(l.length:Int)≤b→b≤9000000000000000000 →
  av Tryz.prog 103 [.ptr k0 0,LNd fl l,.int .i64 b] H fun r H'=>r = .tup [encR fl (dH ws es k m l b).1,.bool (dH ws es k m l b).2]∧H'=H:=by
 induction k with
 | zero =>
  intro l H m b s hk hb1 hb2;have:l=[]:=List.length_eq_zero_iff.1 (by omega);subst this;rw[chk_nil];refine aF tok Tryz.func103 rfl rfl ?_;refine wx ?_;simp -dsimp[Tryz.f103,rO,LNd];rfl
 | succ k ih =>
  intro l H m b s hk hb1 hb2
  cases l with
  | nil =>
   rw[chk_nil];refine aF tok Tryz.func103 rfl rfl ?_;refine wx ?_;simp -dsimp[Tryz.f103,rO,LNd];rfl
  | cons x r =>
   simp only[sB]at hk hb1;refine ei ?_ (by intro c hc;simp at hc;rcases hc with rfl | rfl;exact encR_rb _ _ _;trivial) s.rb;have hk0:k0<H.length:=aB s.h0;have hkm:km<H.length:=aB s.hm;have hlm:=s.lm;have hlw:=s.lw
   have hn2:n≤200:=by have:=hb.n;omega
   obtain⟨xv,xl⟩:=x;obtain⟨P,hP⟩:∃P,P=dH ws es (k+1) m (⟨xv,xl⟩::r) b:=⟨_,rfl⟩;rw[←hP];rw[dH]at hP;simp only at hP;have s2:=s.app [B.cells [.int .i64 xv,LSh false xl]] (by simp[rbB,rb,rb1,LSh])
   have gx:(H++[B.cells [.int .i64 xv,LSh false xl]])[H.length]?=some (B.cells [.int .i64 xv,LSh false xl]):=by simp
   have hes:es.length≤1000000:=by have:=hb.ne;omega
   have hel:∀e∈es,e.length≤1000000:=fun e he=>by have:=hb.ed.len e he;have:=hb.n;omega
   have hed:gK n es:=hlw▸hb.ed;have cd:=dead_h s2 hed hes hel;have cs:=shares_h s2 hb xl false b;simp only[LSh]at gx cs s2 cd;have htk:uH r.length (r.map aS)=r.map aS:=rt (by simp);have g0:=s2.h0;have gm:=s2.hm;have hnl:=bE m
   have hrl:¬((r.length:Int)+1=0):=by omega
   obtain⟨D,hD⟩:∃D,D=fG m es:=⟨_,rfl⟩;rw[←hD]at cd hP;obtain⟨S,hS⟩:∃S,S=shE ws es m xl b:=⟨_,rfl⟩;rw[←hS]at cs hP;refine aF tok Tryz.func103 rfl rfl ?_;refine wx ?_;simp -dsimp[Tryz.f103,rO,LNd,hrl,aS,LSh];refine aG (aW tok mixed [5,6] [(0,[1]),(1,[1]),(2,[1]),(3,[1,2]),(4,[1,2])] [] (by kernel_rfl) fun C K hC hK=>?_);simp -implicitDefEqProofs [LNd,htk,aS,LSh];refine hK _ _ ?_;obtain⟨HH,hHH⟩:∃HH,HH=H++[B.cells [.int .i64 xv,.lst 2 false (xl.map aP)]]:=⟨_,rfl⟩;have hex:∃G,HH=H++G:=⟨_,hHH⟩;rw[←hHH]at s2 gx cd cs g0 gm ⊢;clear hC hK C K;by_cases c1:xv = -1
   ·rw[if_pos c1]at hP;subst c1
    cases xl with
    | nil =>
     rw[if_pos rfl]at hP;by_cases c2:b≤0
     ·rw[decide_eq_true c2,uS]at hP;subst hP;simp -dsimp[gx,c2,aS,LSh];exact⟨rfl,hex⟩
     ·rw[decide_eq_false c2,sf]at hP;subst hP;simp -dsimp[gx,c2,aS,LSh];refine bD cd ?_;rintro _ _ ⟨rfl,rfl⟩;simp -dsimp[aS,LSh];exact⟨rfl,hex⟩
    | cons y ys =>
     rw[if_neg (by simp)]at hP;subst hP
     have hyl:¬((ys.length:Int)+1=0):=by omega
     simp -dsimp[gx,hyl,aS,LSh];refine bD cs ?_;rintro _ _ ⟨rfl,rfl⟩;simp -dsimp[aS,LSh];exact⟨rfl,hex⟩
   ·rw[if_neg c1]at hP;by_cases c2:xv<0
    ·rw[if_pos (.inl c2)]at hP;subst hP;simp -dsimp[gx,g0,c1,c2,aS,LSh];refine .inr ⟨aC (by kernel_rfl),?_⟩;exact⟨rfl,hex⟩
    by_cases c3:(n:Int)≤xv
    ·rw[if_pos (.inr (.inl (hlm▸c3)))]at hP;subst hP;simp -dsimp[gx,g0,gm,hnl,hlm,c1,c2,c3,aS,LSh];refine .inr ⟨aC (by kernel_rfl),?_⟩;exact⟨rfl,hex⟩
    by_cases c4:xl=[]
    ·subst c4;obtain⟨v,rfl⟩:∃v:Nat,xv=v:=⟨xv.toNat,by omega⟩
     have hvn:v<n:=by omega
     have hat:=fun h=>bR (m:=m) (x:=v) h
     obtain⟨c,hc⟩:∃c,c=m.getD v 0:=⟨_,rfl⟩;by_cases c5:c=0
     ·rw[if_neg (by rw[sT,←hc,hlm];rintro(h | h | h | h)<;>first | omega | exact h rfl | exact h c5)]at hP;rw[sT]at hP;rw[←hc,c5]at hat
      have c6:¬((n:Int)≤v):=by omega
      simp -dsimp[gx,g0,gm,c1,c2,c6,hat,hnl,hlm,hvn,aS,LSh];refine .inr ⟨aC (by kernel_rfl),?_⟩
      have hvw:v<ws.length:=by omega
      have hwl:=(am ws 0 hvw).symm;have hwb:=hb.w v hvw;obtain⟨w,hw⟩:∃w,w=ws.getD v 0:=⟨_,rfl⟩;rw[←hw]at hwl hwb hP;have hbw:IntKind.i64.wrap (b-w)=b-w:=wrap64 (by omega) (by omega)
      have hm0:m.set v 0=m:=by
       have:m[v]'(by omega)=0:=by rw[←am m 0 (by omega),←hc];exact c5
       conv=>rhs;rw[←tw (show v<m.length by omega)]
       rw[this]
      have hst1:(nuL m).set v (.int .i64 1)=nuL (m.set v 1):=dA m v 1;have hst2:(nuL (m.set v 1)).set v (.int .i64 2)=nuL (m.set v 2):=(dA (m.set v 1) v 2).trans (by rw[tC]);have hst3:(nuL (m.set v 1)).set v (.int .i64 0)=nuL m:=(dA (m.set v 1) v 0).trans (by rw[tC,hm0]);have hst4:(nuL (m.set v 2)).set v (.int .i64 0)=nuL m:=(dA (m.set v 2) v 0).trans (by rw[tC,hm0]);refine aG (aW tok mixed [7] [] [] (by kernel_rfl) fun C K hC hK=>?_);simp -implicitDefEqProofs [gx,g0,gm,hat,hnl,hlm,hvn,hst1,aS,LSh];refine hK _ _ ?_;clear hC hK C K;have s3:=s2.mark v 1;have s4:=s2.mark v 2;have hb3:=s2.back1 (.buf 3 1 (nuL (m.set v 1)) false);have hb4:=s2.back1 (.buf 3 1 (nuL (m.set v 2)) false)
      have hkn:km≠H.length:=by omega
      have gx3:(HH.set km (.buf 3 1 (nuL (m.set v 1)) false))[H.length]?=some (B.cells [.int .i64 v,.lst 2 false []]):=by rw[ry hkn];exact gx
      have gx4:(HH.set km (.buf 3 1 (nuL (m.set v 2)) false))[H.length]?=some (B.cells [.int .i64 v,.lst 2 false []]):=by rw[ry hkn];exact gx
      have hs34:(HH.set km (.buf 3 1 (nuL (m.set v 1)) false)).set km (.buf 3 1 (nuL (m.set v 2)) false)=HH.set km (.buf 3 1 (nuL (m.set v 2)) false):=by rw[tC]
      obtain⟨H3,hH3⟩:∃H3,H3=HH.set km (.buf 3 1 (nuL (m.set v 1)) false):=⟨_,rfl⟩;obtain⟨H4,hH4⟩:∃H4,H4=HH.set km (.buf 3 1 (nuL (m.set v 2)) false):=⟨_,rfl⟩;rw[←hH3]at s3 hb3 gx3 hs34 ⊢;rw[←hH4]at s4 hb4 gx4 hs34;have h03:=s3.h0;have hm3:=s3.hm;have h04:=s4.h0;have hm4:=s4.hm
      have hat3:=fun h=>bR (m:=m.set v 1) (x:=v) h
      have hat4:=fun h=>bR (m:=m.set v 2) (x:=v) h
      have nl3:=bE (m.set v 1);have nl4:=bE (m.set v 2);rw[se]at nl3 nl4;have i3:=ih r H3 (m.set v 1) (b-w) s3 (by omega) (by omega) (by omega);have hsome:=jv ws es k (m.set v 1) r (b-w);have hlen:=oz ws es k (m.set v 1) r (b-w);obtain⟨p,hp⟩:∃p,p=dH ws es k (m.set v 1) r (b-w):=⟨_,rfl⟩;rw[←hp]at i3 hsome hlen hP;obtain⟨p1,p2⟩:=p;simp only[LNd]at i3;simp -dsimp[gx3,h03,hm3,hvw,hwl,hbw,L1,aE,aS,LSh];refine .inr ⟨aC (by kernel_rfl),?_⟩;refine aN _ (bD i3 fun _ _ h=>h) ?_
      cases p2 with
      | false =>
       have hP2:P=(p1,false):=by rw[hP];cases p1<;>rfl
       subst hP2;simp -dsimp[aS,LSh];refine aG (aW tok mixed [7] [] [] (by kernel_rfl) fun C K hC hK=>?_);simp -implicitDefEqProofs [gx3,h03,hm3,hat3,nl3,hlm,hvn,hst3,hb3,aS,LSh];refine hK _ _ ?_;simp -dsimp[aS,LSh];exact hex
      | true =>
       obtain⟨r',hr'⟩:=hsome rfl;simp only at hr';subst hr';have hlr:=hlen r' rfl;simp only at hP;have i4:=ih r' H4 (m.set v 2) b s4 (by omega) (by omega) hb2;rw[←hP]at i4;simp -dsimp[encR,aS,LSh];refine aG (aW tok mixed [7] [] [] (by kernel_rfl) fun C K hC hK=>?_);simp -implicitDefEqProofs [gx3,h03,hm3,hat3,nl3,hlm,hvn,hst2,hs34,aS,LSh];refine hK _ _ ?_;clear hC hK C K;simp -dsimp[aS,LSh];refine bD i4 ?_;rintro _ _ ⟨rfl,rfl⟩;simp -dsimp[aS,LSh];refine aG (aW tok mixed [7] [] [] (by kernel_rfl) fun C K hC hK=>?_);simp -implicitDefEqProofs [gx4,h04,hm4,hat4,nl4,hlm,hvn,hst4,hb4,aS,LSh];refine hK _ _ ?_;simp -dsimp[aS,LSh];exact hex
     ·rw[if_pos (.inr (.inr (.inr (by rw[sT,←hc];exact c5))))]at hP;rw[←hc]at hat;subst hP;simp -dsimp[gx,g0,gm,c1,c2,c3,hat,hnl,hlm,hvn,c5,show ¬((c:Int)=0) by omega,aS,LSh];refine .inr ⟨aC (by kernel_rfl),?_⟩;exact⟨rfl,hex⟩
    ·rw[if_pos (.inr (.inr (.inl c4)))]at hP;subst hP;have hyl:=List.length_pos_iff.2 c4;simp -dsimp[gx,g0,gm,hnl,hlm,c1,c2,c3,hyl,c4,aS,LSh];refine .inr ⟨aC (by kernel_rfl),?_⟩;exact⟨rfl,hex⟩
end
end Go.Proofs.YtjogkbekekdkjaaGreatDoor
