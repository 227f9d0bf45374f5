/- JF9: own texts of this seat, joined and shortened by pack4.py: Nf, Sp. -/
import Derived.Lib.ItoaNum
import Derived.Lib.ParseIntB
import Derived.Lib.Split
import Derived.Lib.SplitLaws
import Derived.Lib.Join
set_option linter.unusedVariables false
set_option linter.unusedSimpArgs false
set_option maxRecDepth 100000
set_option maxHeartbeats 64000000
open List renaming length_cons→gw
open Nat renaming le_refl→gn,add_zero→ig
namespace Go.Proofs.YtdhgchekdkjcpaaGreatDoor
section
open Go Go.Lib
def isDg(c:UInt8):Prop:=48≤c.toNat∧c.toNat≤57
theorem fJ{u:Nat}(h:u<10):decDigits u=[UInt8.ofNat (48+u)]:=decDigits_one h
theorem dec_big{u:Nat}(h:¬u<10):decDigits u=decDigits (u / 10)++[UInt8.ofNat (48+u % 10)]:=by rw[decDigits,dif_neg h]
instance (c:UInt8):Decidable (isDg c):=by unfold isDg;infer_instance
def inI(v:Int):Prop:=-9223372036854775808≤v∧v≤9223372036854775807
theorem nDig_le:∀(k u:Nat),u<10^(k+1)→nDigits u≤k+1
 | 0,u,h=>by rw[nDigits_small (by simpa using h)];exact gn _
 | k+1,u,h=>by
  by_cases hu:u<10
  ·rw[nDigits_small hu];omega
  ·rw[nDigits_big hu];have:=nDig_le k (u / 10) (by rw[Nat.pow_succ]at h;omega);omega
theorem dec_len19{u:Nat}(h:u≤9223372036854775808):(decDigits u).length≤19:=by
 rw[decDigits_length]
 have e:(10:Nat)^(18+1)=10000000000000000000:=by decide
 exact nDig_le 18 u (by omega)
def spl(c:UInt8):List UInt8→List (List UInt8)
 | []=>[[]]
 | b::l=>if b=c then []::spl c l else match spl c l with
  | p::ps=>(b::p)::ps
  | []=>[[b]]
theorem spl_ne(c:UInt8)(l:List UInt8):spl c l≠[]:=by
 cases l with
 | nil=>simp[spl]
 | cons b l =>
  unfold spl;split
  ·simp
  ·split<;>simp
theorem dV{c b:UInt8}{l:List UInt8}(h:¬b=c):∃p ps,spl c l=p::ps∧spl c (b::l)=(b::p)::ps:=by
 cases hs:spl c l with
 | nil=>exact absurd hs (spl_ne c l)
 | cons p ps=>exact⟨p,ps,rfl,by rw[spl,if_neg h,hs]⟩
theorem fk(c:UInt8)(l:List UInt8):(spl c l).length=l.count c+1:=by
 induction l with
 | nil=>rfl
 | cons b l ih =>
  by_cases h:b=c
  ·subst h;rw[spl,if_pos rfl,gw,ih,List.count_cons_self]
  ·obtain⟨p,ps,e1,e2⟩:=dV (l:=l) h;rw[e2,List.count_cons_of_ne (by simpa using fun e=>h e)];rw[e1]at ih;simpa using ih
theorem idx_one(b c:UInt8)(l:List UInt8)(h:¬b=c):index (b::l) [c]=if index l [c] == -1 then -1 else index l [c]+1:=by
 rw[index,if_neg];simp[List.isPrefixOf]
 exact fun e=>h e.symm
theorem split_one(c:UInt8)(l:List UInt8):splitK [c] 0 (count l [c]) l=spl c l:=by
 induction l with
 | nil=>rfl
 | cons b l ih =>
  by_cases h:b=c
  ·subst h;rw[count_cons_eq,Nat.add_comm,splitK]
   have e:index (b::l) [b]=0:=by rw[index,if_pos];simp[List.isPrefixOf]
   rw[if_neg (by rw[e];decide),e,spl,if_pos rfl];simp[ih]
  ·obtain⟨p,ps,e1,e2⟩:=dV (l:=l) h;rw[count_cons_ne b c l h,e2];rw[e1]at ih
   cases hk:count l [c] with
   | zero =>
    rw[hk,splitK]at ih;rw[splitK];cases ih;rfl
   | succ k =>
    rw[hk,splitK]at ih
    have hc:0<count l [c]:=by omega
    obtain⟨i,hi⟩:∃i:Nat,index l [c]=i:=by
     rcases index_spec l [c] with⟨h1,_⟩ | ⟨i,h1,_⟩
     ·rw[count_miss h1]at hc;omega
     ·exact⟨i,h1⟩
    rw[if_neg (by rw[hi];simp),hi]at ih
    have hi2:index (b::l) [c]=((i+1:Nat):Int):=by
     rw[idx_one b c l h,hi,if_neg (by first | (simp;done) | (simp;omega))];omega
    rw[splitK,if_neg (by rw[hi2];simp;omega),hi2];simp only[Int.toNat_natCast,List.length_singleton,ig]at ih ⊢;obtain⟨q1,q2⟩:=List.cons.inj ih;rw[List.take_succ_cons,List.drop_succ_cons,q1,q2]
def addB(b:UInt8):List (List UInt8)→List (List UInt8)
 | []=>[[b]]
 | [p]=>[p++[b]]
 | p::q::r=>p::addB b (q::r)
theorem spl_snoc(c b:UInt8)(l:List UInt8):spl c (l++[b])=if b=c then spl c l++[[]] else addB b (spl c l):=by
 induction l with
 | nil =>
  by_cases h:b=c
  ·rw[if_pos h];simp[spl,h]
  ·rw[if_neg h];simp[spl,h,addB]
 | cons a l ih =>
  rw[List.cons_append];by_cases ha:a=c
  ·rw[spl,if_pos ha,ih,spl,if_pos ha];split
   ·rfl
   ·cases hs:spl c l with
    | nil=>exact absurd hs (spl_ne c l)
    | cons p ps=>rfl
  ·obtain⟨p,ps,e1,e2⟩:=dV (l:=l) ha;obtain⟨p',ps',e3,e4⟩:=dV (l:=l++[b]) ha;rw[e4,e2];rw[ih,e1]at e3;by_cases hb:b=c
   ·rw[if_pos hb]at e3 ⊢;simp only[List.cons_append]at e3 ⊢;obtain⟨q1,q2⟩:=List.cons.inj e3;rw[←q1,←q2]
   ·rw[if_neg hb]at e3 ⊢
    cases ps with
    | nil =>
     simp only[addB]at e3 ⊢;obtain⟨q1,q2⟩:=List.cons.inj e3;rw[←q1,←q2];rfl
    | cons x y =>
     simp only[addB]at e3 ⊢;obtain⟨q1,q2⟩:=List.cons.inj e3;rw[←q1,←q2]
end
end Go.Proofs.YtdhgchekdkjcpaaGreatDoor
