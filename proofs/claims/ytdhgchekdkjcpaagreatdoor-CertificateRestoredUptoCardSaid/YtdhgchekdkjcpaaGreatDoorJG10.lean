/- JG10: own texts of this seat, joined and shortened by pack4.py: Nf, Sp. -/
import Derived.Lib.ItoaNum
import Derived.Lib.ParseIntB
import Derived.Lib.Split
import Derived.Lib.SplitLaws
import Derived.Lib.Join
set_option linter.unusedVariables false
set_option linter.unusedSimpArgs false
set_option maxRecDepth 100000
set_option maxHeartbeats 64000000
open Bool renaming false_eq_true→ke
open List renaming nil_append→kX,length_cons→kZ,cons_append→kf,append_nil→kp,drop_zero→ky,mem_cons_self→lB,mem_cons_of_mem→lE,intercalate→lK,intersperse→lL,foldl_cons→lU,take_succ_cons→ll,mem_append→mC,mem_cons→mE
open Nat renaming le_refl→kY,le_trans→lM,strongRecOn→lk,add_zero→lr,add_comm→mX
namespace Go.Proofs.YtdhgchekdkjcpaaGreatDoor
section
open Go Go.Lib
def cE(c:UInt8):Prop:=48≤c.toNat∧c.toNat≤57
def dgV(c:UInt8):Nat:=c.toNat-48
def bf(l:List UInt8):Nat:=l.foldl (fun a c=>10*a+dgV c) 0
theorem eH(l:List UInt8)(c:UInt8):bf (l++[c])=10*bf l+dgV c:=by simp[bf]
theorem dg_of{d:Nat}(h:d<10):(UInt8.ofNat (48+d)).toNat=48+d:=by
 rw[UInt8.toNat_ofNat'];omega
theorem dT{u:Nat}(h:u<10):decDigits u=[UInt8.ofNat (48+u)]:=decDigits_one h
theorem iB{u:Nat}(h:¬u<10):decDigits u=decDigits (u / 10)++[UInt8.ofNat (48+u % 10)]:=by rw[decDigits,dif_neg h]
theorem dec_ne(u:Nat):decDigits u≠[]:=by
 by_cases h:u<10
 ·rw[dT h];simp
 ·rw[iB h];simp
theorem gS(u:Nat):∀c∈decDigits u,cE c:=by
 induction u using lk with
 | _ u ih =>
  intro c hc;by_cases h:u<10
  ·rw[dT h,List.mem_singleton]at hc;subst hc;unfold cE;rw[dg_of h];omega
  ·rw[iB h,mC,List.mem_singleton]at hc
   rcases hc with hc | rfl
   ·exact ih (u / 10) (by omega) c hc
   ·unfold cE;rw[dg_of (by omega)];omega
theorem fj(u:Nat):bf (decDigits u)=u:=by
 induction u using lk with
 | _ u ih =>
  by_cases h:u<10
  ·rw[dT h];show 10*0+dgV _=u;unfold dgV;rw[dg_of h];omega
  ·rw[iB h,eH,ih (u / 10) (by omega)];unfold dgV;rw[dg_of (by omega)];omega
theorem dec_head(u:Nat)(h0:1≤u):∃c r,decDigits u=c::r∧c.toNat≠48:=by
 induction u using lk with
 | _ u ih =>
  by_cases h:u<10
  ·rw[dT h];exact⟨_,_,rfl,by rw[dg_of h];omega⟩
  ·obtain⟨c,r,e,hc⟩:=ih (u / 10) (by omega) (by omega);rw[iB h,e];exact⟨c,_,rfl,hc⟩
theorem u8_ext{a b:UInt8}(h:a.toNat=b.toNat):a=b:=UInt8.toNat_inj.1 h
theorem pos_of{l:List UInt8}(h:∀c∈l,cE c):∀{a:Nat},1≤a→1≤l.foldl (fun a c=>10*a+dgV c) a:=by
 induction l with
 | nil=>intro a h;exact h
 | cons c l ih =>
  intro a ha;exact ih (fun x hx=>h x (lE _ hx)) (by show 1≤10*a+dgV c;omega)
theorem dec_of{l:List UInt8}(h0:l≠[])(hd:∀c∈l,cE c)(hz:∀c r,l=c::r→r≠[]→c.toNat≠48):decDigits (bf l)=l:=by
 obtain⟨n,hn⟩:∃n,n=l.length:=⟨_,rfl⟩
 induction n using lk generalizing l with
 | _ n ih =>
  rcases List.eq_nil_or_concat l with e | ⟨l',c,e⟩
  ·exact absurd e h0
  ·rw[List.concat_eq_append]at e;subst e;have hc:=hd c (by simp)
   have hcv:dgV c<10:=by unfold dgV;unfold cE at hc;omega
   have hce:UInt8.ofNat (48+dgV c)=c:=u8_ext (by rw[dg_of hcv];unfold dgV;unfold cE at hc;omega);by_cases hl:l'=[]
   ·subst hl;rw[kX]
    have:bf [c]=dgV c:=by simp[bf]
    rw[this,dT hcv,hce]
   ·have h1:1≤bf l':=by
     cases l' with
     | nil=>exact absurd rfl hl
     | cons d r =>
      have hd0:=hz d (r++[c]) rfl (by simp);have hdd:=hd d (by simp);unfold bf;rw[lU];refine pos_of (fun x hx=>hd x (by simp[hx])) ?_;unfold dgV;unfold cE at hdd;omega
    rw[eH,iB (by omega),show(10*bf l'+dgV c) / 10=bf l' by omega,show(10*bf l'+dgV c) % 10=dgV c by omega,hce];rw[ih l'.length (by rw[hn];simp) hl (fun x hx=>hd x (by simp[hx])) (fun d r e hr=>hz d (r++[c]) (by rw[e];rfl) (by simp)) rfl]
theorem p64:(2:Nat)^64-1=18446744073709551615:=by decide
theorem p63:(2:Nat)^(64-1)=9223372036854775808:=by decide
theorem iT(l m:List UInt8):bf l≤bf (l++m):=by
 unfold bf;rw[List.foldl_append];generalize l.foldl (fun a c=>10*a+dgV c) 0=a
 induction m generalizing a with
 | nil=>exact kY _
 | cons c m ih=>exact lM (show a≤10*a+dgV c by omega) (ih _)
theorem parse_dec{M:Nat}(hM:M≤18446744073709551615)(l:List UInt8)(hd:∀c∈l,cE c):∀(p:List UInt8),bf (p++l)≤M→parseUintM M (bf p) l = .ok (bf (p++l)):=by
 induction l with
 | nil=>intro p _;rw[kp];rfl
 | cons c l ih =>
  intro p h
  have e:p++c::l=(p++[c])++l:=by simp
  have hc:=hd c lB;have h1:=iT (p++[c]) l;rw[←e]at h1;have h2:=eH p c;unfold parseUintM;unfold cE at hc
  have h3:bf p*10+(c.toNat-48)=bf (p++[c]):=by rw[h2];unfold dgV;omega
  rw[if_pos hc,h3,if_neg (by omega),if_neg (by omega),e];exact ih (fun x hx=>hd x (lE _ hx)) _ (by rw[←e];exact h)
theorem jX{n:Int}(h0 : -9223372036854775808≤n)(h1:n≤9223372036854775807):parseIntB 64 (itoa n)= .ok n:=by
 by_cases hn:n<0
 ·have e:itoa n=45::decDigits n.natAbs:=by unfold itoa;rw[if_pos hn]
  rw[e];have hp:=parse_dec (M:=2^64-1) (by decide) (decDigits n.natAbs) (gS _) [] (by rw[kX,fj,p64];omega);rw[kX,fj]at hp
  have hq:parseUintB 64 (decDigits n.natAbs)= .ok n.natAbs:=by unfold parseUintB;rw[if_neg (dec_ne _)];exact hp
  unfold parseIntB;simp only[show(45:UInt8).toNat=45 from rfl,or_true,if_true,hq,not_true_eq_false,false_and,if_false,true_and];rw[if_neg (by rw[p63];omega)];congr 1;omega
 ·have e:itoa n=decDigits n.toNat:=by unfold itoa;rw[if_neg hn]
  rw[e];have hp:=parse_dec (M:=2^64-1) (by decide) (decDigits n.toNat) (gS _) [] (by rw[kX,fj,p64];omega);rw[kX,fj]at hp
  have hq:parseUintB 64 (decDigits n.toNat)= .ok n.toNat:=by unfold parseUintB;rw[if_neg (dec_ne _)];exact hp
  have hdg:=gS n.toNat
  cases hl:decDigits n.toNat with
  | nil=>exact absurd hl (dec_ne _)
  | cons c r =>
   have hc:=hdg c (by rw[hl];exact lB);unfold cE at hc;rw[hl]at hq;unfold parseIntB
   have h43:¬c.toNat=43:=by omega
   have h45:¬c.toNat=45:=by omega
   simp only[h43,h45,or_self,if_false,hq,not_false_eq_true,true_and,false_and];rw[if_neg (by rw[p63];omega)];congr 1;omega
instance (c:UInt8):Decidable (cE c):=by unfold cE;infer_instance
def gI(neg:Bool):List UInt8→Int→Option Int
 | [],n=>some n
 | c::r,n=>if cE c then
   (if n > 922337203685477580∨n < -922337203685477580∨(n=922337203685477580∧(if neg=true then -(dgV c:Int) else dgV c)> 7)∨(n = -922337203685477580∧(if neg=true then -(dgV c:Int) else dgV c)< -8) then none
    else gI neg r (10*n+(if neg=true then -(dgV c:Int) else dgV c))) else none
theorem numG_pos(ds:List UInt8):∀(p:List UInt8),bf p≤9223372036854775807→gI false ds (bf p:Int)=if(∀c∈ds,cE c)∧bf (p++ds)≤9223372036854775807 then some (bf (p++ds):Int) else none:=by
 induction ds with
 | nil=>intro p h;rw[kp,if_pos ⟨by simp,h⟩];rfl
 | cons c ds ih =>
  intro p h
  have e:p++c::ds=(p++[c])++ds:=by simp
  have h1:=iT (p++[c]) ds;have h2:=eH p c;unfold gI;by_cases hc:cE c
  ·rw[if_pos hc]
   have hv:dgV c<10:=by unfold dgV;unfold cE at hc;omega
   simp only[ke,if_false];by_cases hf:9223372036854775807<bf (p++[c])
   ·rw[if_pos (by omega),if_neg (by rw[e];omega)]
   ·rw[if_neg (by omega)];have:=ih (p++[c]) (by omega);rw[show(10*(bf p:Int)+(dgV c:Int))=((bf (p++[c]):Nat):Int) by rw[h2];omega,this,e];simp only[mE,forall_eq_or_imp,hc,true_and]
  ·rw[if_neg hc,if_neg (fun h=>hc (h.1 c lB))]
theorem numG_neg(ds:List UInt8):∀(p:List UInt8),bf p≤9223372036854775808→gI true ds (-(bf p:Int))=if(∀c∈ds,cE c)∧bf (p++ds)≤9223372036854775808 then some (-(bf (p++ds):Int)) else none:=by
 induction ds with
 | nil=>intro p h;rw[kp,if_pos ⟨by simp,h⟩];rfl
 | cons c ds ih =>
  intro p h
  have e:p++c::ds=(p++[c])++ds:=by simp
  have h1:=iT (p++[c]) ds;have h2:=eH p c;unfold gI;by_cases hc:cE c
  ·rw[if_pos hc]
   have hv:dgV c<10:=by unfold dgV;unfold cE at hc;omega
   simp only[if_true];by_cases hf:9223372036854775808<bf (p++[c])
   ·rw[if_pos (by omega),if_neg (by rw[e];omega)]
   ·rw[if_neg (by omega)];have:=ih (p++[c]) (by omega);rw[show(10*(-(bf p:Int))+ -(dgV c:Int))= -((bf (p++[c]):Nat):Int) by rw[h2];omega,this,e];simp only[mE,forall_eq_or_imp,hc,true_and]
  ·rw[if_neg hc,if_neg (fun h=>hc (h.1 c lB))]
def ofN(l:List UInt8):Nat:=if 1<l.length∧l.head?=some 45 then 1 else 0
def bQ(l:List UInt8):Option Int :=
 if l=[]∨20<l.length then none
 else if(l.drop (ofN l)).head?=some 48∧1<l.length then none
 else gI (l.head? == some 45) (l.drop (ofN l)) 0
def numP(l:List UInt8):Option Int:=match parseIntB 64 l with
 | .ok v=>if itoa v=l then some v else none
 | _=>none
def inI(v:Int):Prop:=-9223372036854775808≤v∧v≤9223372036854775807
theorem numP_iff{l:List UInt8}{v:Int}(hb:∀v,parseIntB 64 l = .ok v→inI v):numP l=some v↔itoa v=l∧inI v:=by
 unfold numP;constructor
 ·intro h
  cases hp:parseIntB 64 l with
  | ok w =>
   rw[hp]at h;simp only at h;split at h
   ·rename_i e;cases h;exact⟨e,hb _ hp⟩
   ·cases h
  | range=>rw[hp]at h;cases h
  | _=>rw[hp]at h;cases h
 ·rintro⟨e,h0,h1⟩;have:=jX h0 h1;rw[e]at this;rw[this];simp only;rw[if_pos e]
theorem nDig_le:∀(k u:Nat),u<10^(k+1)→nDigits u≤k+1
 | 0,u,h=>by rw[nDigits_small (by simpa using h)];exact kY _
 | k+1,u,h=>by
  by_cases hu:u<10
  ·rw[nDigits_small hu];omega
  ·rw[nDigits_big hu];have:=nDig_le k (u / 10) (by rw[Nat.pow_succ]at h;omega);omega
theorem iS{u:Nat}(h:u≤9223372036854775808):(decDigits u).length≤19:=by
 rw[decDigits_length]
 have e:(10:Nat)^(18+1)=10000000000000000000:=by decide
 exact nDig_le 18 u (by omega)
theorem fH{l:List UInt8}{v:Int} : bQ l=some v↔itoa v=l∧inI v:=by
 constructor
 ·intro h;unfold bQ at h;split at h
  ·cases h
  rename_i h1
  have hne:l≠[]:=fun e=>h1 (.inl e)
  split at h
  ·cases h
  rename_i h2
  cases l with
  | nil=>exact absurd rfl hne
  | cons c r =>
   by_cases hn:1<(c::r).length∧(c::r).head?=some 45
   ·rw[show ofN (c::r)=1 from if_pos hn]at h h2;obtain⟨hn1,hn2⟩:=hn
    have hc:c=45:=by simpa using hn2
    subst hc
    have hr:r≠[]:=by intro e;subst e;simp at hn1
    have e1:List.drop 1 (45::r)=r:=rfl;rw[e1]at h h2;have hb:((45::r:List UInt8).head? == some 45)=true:=rfl;rw[hb]at h;have:=numG_neg r [] (by decide);rw[kX]at this;have e0:(-(bf []:Int))=0:=rfl;rw[e0]at this;rw[this]at h;split at h
    ·rename_i h3;cases h
     have hdd:=dec_of hr h3.1 (fun d q e hq=>by
      intro h48
      exact h2 ⟨by rw[e];simp;exact u8_ext h48,hn1⟩)
     have h1v:1≤bf r:=by
      cases r with
      | nil=>exact absurd rfl hr
      | cons d q =>
       have hd:=h3.1 d lB
       have hd48:d.toNat≠48:=fun h48=>h2 ⟨by simp;exact u8_ext h48,hn1⟩
       unfold bf;rw[lU];refine pos_of (fun x hx=>h3.1 x (lE _ hx)) ?_;unfold dgV;unfold cE at hd;omega
     refine⟨?_,by unfold inI;omega⟩;unfold itoa;rw[if_pos (by omega),show(-(bf r:Int)).natAbs=bf r by omega,hdd]
    ·cases h
   ·rw[show ofN (c::r)=0 from if_neg hn,ky]at h h2;by_cases hc:c=45
    ·subst hc;exfalso
     have hr:r=[]:=by
      cases r with
      | nil=>rfl
      | cons d q=>exact absurd ⟨by simp,rfl⟩ hn
     subst hr
     have:gI (([45]:List UInt8).head? == some 45) [45] 0=none:=by decide
     rw[this]at h;cases h
    ·have hb:((c::r).head? == some 45)=false:=by simp[hc]
     rw[hb]at h;have:=numG_pos (c::r) [] (by decide);rw[kX]at this;have e0:((bf []:Nat):Int)=0:=rfl;rw[e0]at this;rw[this]at h;split at h
     ·rename_i h3;cases h
      have hdd:=dec_of hne h3.1 (fun d q e hq=>by
       intro h48;cases e;refine h2 ⟨by simp;exact u8_ext h48,?_⟩
       cases r with
       | nil=>exact absurd rfl hq
       | cons x y=>simp)
      refine⟨?_,by unfold inI;omega⟩;unfold itoa;rw[if_neg (by omega),Int.toNat_natCast,hdd]
     ·cases h
 ·rintro⟨rfl,h0,h1⟩;by_cases hn:v<0
  ·have e:itoa v=45::decDigits v.natAbs:=by unfold itoa;rw[if_pos hn]
   have hl:=iS (u:=v.natAbs) (by omega);obtain⟨c,r,er,hc⟩:=dec_head v.natAbs (by omega)
   have hlp:0<(decDigits v.natAbs).length:=by rw[er];simp
   unfold bQ;rw[e,if_neg (by simp;omega)];have hcond:1<(45::decDigits v.natAbs).length∧(45::decDigits v.natAbs).head?=some 45:=⟨by simp;omega,rfl⟩;rw[show ofN (45::decDigits v.natAbs)=1 from if_pos hcond];have e1:List.drop 1 (45::decDigits v.natAbs)=decDigits v.natAbs:=rfl;rw[e1,if_neg (by rw[er];rintro⟨hh,_⟩;simp at hh;exact hc (by rw[hh];rfl))];have hb:((45::decDigits v.natAbs:List UInt8).head? == some 45)=true:=rfl;rw[hb];have:=numG_neg (decDigits v.natAbs) [] (by decide);rw[kX,fj]at this;have e0:(-(bf []:Int))=0:=rfl;rw[e0]at this;rw[this,if_pos ⟨gS _,by omega⟩];congr 1;omega
  ·have e:itoa v=decDigits v.toNat:=by unfold itoa;rw[if_neg hn]
   have hl:=iS (u:=v.toNat) (by omega);have hne:=dec_ne v.toNat;have hdg:=gS v.toNat;have hval:=fj v.toNat
   have hz:∀c r,decDigits v.toNat=c::r→c.toNat=48→r=[]:=fun c r er h48=>by
    by_cases h9:v.toNat<10
    ·rw[dT h9]at er;cases er;rfl
    ·obtain⟨c',r',er',hc'⟩:=dec_head v.toNat (by omega);rw[er]at er';cases er';exact absurd h48 hc'
   obtain⟨D,hD⟩:∃D,D=decDigits v.toNat:=⟨_,rfl⟩;rw[←hD]at e hl hne hdg hval hz;unfold bQ;rw[e,if_neg (by simp[hne];omega)]
   cases D with
   | nil=>exact absurd rfl hne
   | cons c r =>
    have hcd:=hdg c lB
    have hc45:¬c=45:=fun e=>by subst e;unfold cE at hcd;simp at hcd
    rw[show ofN (c::r)=0 from if_neg (by rintro⟨_,h⟩;exact hc45 (by simpa using h)),ky]
    rw[if_neg (by
     rintro⟨h48,hlen⟩
     have:c=48:=by simpa using h48
     have:=hz c r rfl (by rw[this];rfl);subst this
     simp at hlen)]
    have hb:((c::r).head? == some 45)=false:=by simp[hc45]
    rw[hb];have:=numG_pos (c::r) [] (by decide);rw[kX,hval]at this;have e0:((bf []:Nat):Int)=0:=rfl;rw[e0]at this;rw[this,if_pos ⟨hdg,by omega⟩];congr 1;omega
theorem num_same(l:List UInt8)(hb:∀v,parseIntB 64 l = .ok v→inI v):numP l=bQ l:=by
 cases h:bQ l with
 | some v=>exact(numP_iff hb).2 (fH.1 h)
 | none =>
  cases h2:numP l with
  | none=>rfl
  | some v=>rw[fH.2 ((numP_iff hb).1 h2)]at h;cases h
def spl(c:UInt8):List UInt8→List (List UInt8)
 | []=>[[]]
 | b::l=>if b=c then []::spl c l else match spl c l with
  | p::ps=>(b::p)::ps
  | []=>[[b]]
theorem dq(c:UInt8)(l:List UInt8):spl c l≠[]:=by
 cases l with
 | nil=>simp[spl]
 | cons b l =>
  unfold spl;split
  ·simp
  ·split<;>simp
theorem eA{c b:UInt8}{l:List UInt8}(h:¬b=c):∃p ps,spl c l=p::ps∧spl c (b::l)=(b::p)::ps:=by
 cases hs:spl c l with
 | nil=>exact absurd hs (dq c l)
 | cons p ps=>exact⟨p,ps,rfl,by rw[spl,if_neg h,hs]⟩
theorem cD(c:UInt8)(l:List UInt8):(spl c l).length=l.count c+1:=by
 induction l with
 | nil=>rfl
 | cons b l ih =>
  by_cases h:b=c
  ·subst h;rw[spl,if_pos rfl,kZ,ih,List.count_cons_self]
  ·obtain⟨p,ps,e1,e2⟩:=eA (l:=l) h;rw[e2,List.count_cons_of_ne (by simpa using fun e=>h e)];rw[e1]at ih;simpa using ih
theorem idx_one(b c:UInt8)(l:List UInt8)(h:¬b=c):index (b::l) [c]=if index l [c] == -1 then -1 else index l [c]+1:=by
 rw[index,if_neg];simp[List.isPrefixOf]
 exact fun e=>h e.symm
theorem split_one(c:UInt8)(l:List UInt8):splitK [c] 0 (count l [c]) l=spl c l:=by
 induction l with
 | nil=>rfl
 | cons b l ih =>
  by_cases h:b=c
  ·subst h;rw[count_cons_eq,mX,splitK]
   have e:index (b::l) [b]=0:=by rw[index,if_pos];simp[List.isPrefixOf]
   rw[if_neg (by rw[e];decide),e,spl,if_pos rfl];simp[ih]
  ·obtain⟨p,ps,e1,e2⟩:=eA (l:=l) h;rw[count_cons_ne b c l h,e2];rw[e1]at ih
   cases hk:count l [c] with
   | zero =>
    rw[hk,splitK]at ih;rw[splitK];cases ih;rfl
   | succ k =>
    rw[hk,splitK]at ih
    have hc:0<count l [c]:=by omega
    obtain⟨i,hi⟩:∃i:Nat,index l [c]=i:=by
     rcases index_spec l [c] with⟨h1,_⟩ | ⟨i,h1,_⟩
     ·rw[count_miss h1]at hc;omega
     ·exact⟨i,h1⟩
    rw[if_neg (by rw[hi];simp),hi]at ih
    have hi2:index (b::l) [c]=((i+1:Nat):Int):=by
     rw[idx_one b c l h,hi,if_neg (by first | (simp;done) | (simp;omega))];omega
    rw[splitK,if_neg (by rw[hi2];simp;omega),hi2];simp only[Int.toNat_natCast,List.length_singleton,lr]at ih ⊢;obtain⟨q1,q2⟩:=List.cons.inj ih;rw[ll,List.drop_succ_cons,q1,q2]
def addB(b:UInt8):List (List UInt8)→List (List UInt8)
 | []=>[[b]]
 | [p]=>[p++[b]]
 | p::q::r=>p::addB b (q::r)
theorem spl_snoc(c b:UInt8)(l:List UInt8):spl c (l++[b])=if b=c then spl c l++[[]] else addB b (spl c l):=by
 induction l with
 | nil =>
  by_cases h:b=c
  ·rw[if_pos h];simp[spl,h]
  ·rw[if_neg h];simp[spl,h,addB]
 | cons a l ih =>
  rw[kf];by_cases ha:a=c
  ·rw[spl,if_pos ha,ih,spl,if_pos ha];split
   ·rfl
   ·cases hs:spl c l with
    | nil=>exact absurd hs (dq c l)
    | cons p ps=>rfl
  ·obtain⟨p,ps,e1,e2⟩:=eA (l:=l) ha;obtain⟨p',ps',e3,e4⟩:=eA (l:=l++[b]) ha;rw[e4,e2];rw[ih,e1]at e3;by_cases hb:b=c
   ·rw[if_pos hb]at e3 ⊢;simp only[kf]at e3 ⊢;obtain⟨q1,q2⟩:=List.cons.inj e3;rw[←q1,←q2]
   ·rw[if_neg hb]at e3 ⊢
    cases ps with
    | nil =>
     simp only[addB]at e3 ⊢;obtain⟨q1,q2⟩:=List.cons.inj e3;rw[←q1,←q2];rfl
    | cons x y =>
     simp only[addB]at e3 ⊢;obtain⟨q1,q2⟩:=List.cons.inj e3;rw[←q1,←q2]
theorem spl_join(c:UInt8):∀(ps:List (List UInt8)),ps≠[]→(∀p∈ps,c∉p)→spl c ([c].intercalate ps)=ps:=by
 have one:∀p:List UInt8,c∉p→spl c p=[p]:=by
  intro p hp
  induction p with
  | nil=>rfl
  | cons b p ih =>
   have hb:¬b=c:=fun e=>hp (by simp[e])
   rw[spl,if_neg hb,ih (fun h=>hp (by simp[h]))]
 have app:∀(p q:List UInt8),c∉p→spl c (p++c::q)=p::spl c q:=by
  intro p q hp
  induction p with
  | nil=>rw[kX,spl,if_pos rfl]
  | cons b p ih =>
   have hb:¬b=c:=fun e=>hp (by simp[e])
   rw[kf,spl,if_neg hb,ih (fun h=>hp (by simp[h]))]
 intro ps
 induction ps with
 | nil=>intro h;exact absurd rfl h
 | cons p ps ih =>
  intro _ hp
  cases ps with
  | nil =>
   have:[c].intercalate [p]=p:=by simp[lK,lL]
   rw[this];exact one p (hp p (by simp))
  | cons q r =>
   have e:[c].intercalate (p::q::r)=p++c::[c].intercalate (q::r):=by simp[lK,lL]
   rw[e,app p _ (hp p (by simp)),ih (by simp) (fun x hx=>hp x (by simp[hx]))]
theorem join_spl(c:UInt8)(l:List UInt8):[c].intercalate (spl c l)=l:=by
 induction l with
 | nil=>simp[spl,lK,lL]
 | cons b l ih =>
  by_cases h:b=c
  ·subst h;rw[spl,if_pos rfl]
   cases hs:spl b l with
   | nil=>exact absurd hs (dq b l)
   | cons p ps =>
    have e:[b].intercalate ([]::p::ps)=b::[b].intercalate (p::ps):=by simp[lK,lL]
    rw[e,←hs,ih]
  ·obtain⟨p,ps,e1,e2⟩:=eA (l:=l) h;rw[e2];rw[e1]at ih
   cases ps with
   | nil=>simp[lK,lL]at ih ⊢;exact ih
   | cons x y =>
    have e:∀z,[c].intercalate (z::x::y)=z++c::[c].intercalate (x::y):=fun z=>by simp[lK,lL]
    rw[e]at ih ⊢;rw[kf,ih]
end
end Go.Proofs.YtdhgchekdkjcpaaGreatDoor
