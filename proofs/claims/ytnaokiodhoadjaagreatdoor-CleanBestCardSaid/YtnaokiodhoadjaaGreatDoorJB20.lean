/- JB20: texts X3, OpB, X4, Cl, X5, X7, Q1, Q10, V12, ClS, Q2, X6, X9, S3, joined and shortened by pack6.py. -/
import Derived.Test.YtnaokiodhoadjaaGreatDoorJB16
import Derived.Test.YtnaokiodhoadjaaGreatDoorJB19
import Derived.WalkSpells
import Derived.WalkLawsBesides
import Derived.Lib.Hide
import Derived.Maps.AppendAt
import Derived.Deep.LoopGhost
import Derived.Shelf.SlicesQ.Load
import Derived.Shelf.SlSortCmp.Kit1
set_option linter.all false
set_option maxRecDepth 100000
set_option maxHeartbeats 64000000
open ByteArray renaming empty→tp
open Int renaming natCast_mul→wm
open List renaming replicate→tg,range→tr,length_cons→uX
namespace Go.Proofs.YtnaokiodhoadjaaGreatDoor
section
open Go Go.AM Go.Proofs.Tryz
structure Cs where
 r:Rcp
 d:List Fd
def iK(f g:Bool)(c:Cs):V:=.agg [.int .u8 c.r.a,.int .u8 c.r.gap,.lst 1 f (c.r.rows.map LU),.lst 2 g (c.d.map sj)]
@[simp] theorem encCs_pure (f g:Bool) (c:Cs):AM.Pure (iK f g c):=by simp[iK]
structure CsOk (c:Cs):Prop where
 a:0<=c.r.a/\c.r.a<256
 gap:0<=c.r.gap
 rows:∀r∈c.r.rows,r.length<=9223372036854775807
 rlen:c.r.rows.length<=9223372036854775807
 dlen:c.d.length<=9223372036854775807
 deps:∀d∈c.d,d.l<256/\d.r<256
def csN(c:Cs):Nat:=(c.r.a.tmod 4).toNat
def csB(c:Cs):Bool:=decide (c.r.rows.length<=4)&&(decide (c.r.rows.length*csN c<=9)&&decide (c.d.length<=3))
def csT(c:Cs):Tb:=rH c.r (csN c)
def csF(c:Cs):List Fd:=c.d.map (fdOf (csN c))
def csN_lt{c:Cs}(h:CsOk c):csN c<4/\c.r.a.tmod 4=(csN c:Int):=by
 have h1:=Int.tmod_nonneg 4 h.a.1;have h2:=Int.tmod_lt_of_pos c.r.a (show(0:Int)<4 by omega);unfold csN;omega
def offV:V:=.tup [.agg [.str tp,.nilS,.nilS],.nilS,.bool false]
def of_no(c:Cs)(f g:Bool)(h:CsOk c)(hb:csB c=false):aK prog 4 [iK f g c] fun r=>r=offV:=by
 obtain⟨h1,h2⟩:=csN_lt h;obtain⟨n,hn⟩:=ξ (csN c);rw[<-hn]at h1 h2;have e:IntKind.i64.wrap (n:Int)=n:=bA n ω;unfold csB at hb;rw[<-hn]at hb;by_cases r1:c.r.rows.length<=4
 .have k:c.r.rows.length*n<=4*4:=wS r1 ω
  have a:IntKind.i64.wrap ((c.r.rows.length:Int)*(n:Int))=((c.r.rows.length*n:Nat):Int):=by rw[wrap64 (by rw[<-wm];omega) (by rw[<-wm];omega)];push_cast;rfl
  obtain⟨i,b⟩:=ξ (c.r.rows.length*n);rw[<-b]at a hb;by_cases l:i<=9
  .have j:¬c.d.length<=3:=by
    intro j;rw[decide_eq_true r1,decide_eq_true l,decide_eq_true j]at hb;cases hb
   refine sPx func4 ?_;simp -dsimp[f4,tg,iK,h2,e,a,(ω:¬(4:Int)<c.r.rows.length),(ω:¬(9:Int)<i),(ω:(3:Int)<c.d.length)];rfl
  .refine sPx func4 ?_;simp -dsimp[f4,tg,iK,h2,e,a,(ω:¬(4:Int)<c.r.rows.length),(ω:(9:Int)<i)];rfl
 .refine sPx func4 ?_;simp -dsimp[f4,tg,iK,h2,e,(ω:(4:Int)<c.r.rows.length)];rfl
def of_yes(c:Cs)(f g:Bool)(h:CsOk c)(hb:csB c=true):aK prog 4 [iK f g c] fun r=>r = .tup [aD false false (csT c),LF false (csF c),.bool true]:=by
 obtain⟨h1,h2⟩:=csN_lt h;unfold csT csF;obtain⟨n,hn⟩:=ξ (csN c);rw[<-hn]at h1 h2 ⊢;have l:IntKind.i64.wrap (n:Int)=n:=bA n ω;unfold csB at hb;rw[<-hn]at hb;simp only[tt,decide_eq_true_iff]at hb;obtain⟨r1,o,q⟩:=hb
 have a:IntKind.i64.wrap ((c.r.rows.length:Int)*(n:Int))=((c.r.rows.length*n:Nat):Int):=by rw[wrap64 (by rw[<-wm];omega) (by rw[<-wm];omega)];push_cast;rfl
 obtain⟨m,b⟩:=ξ (c.r.rows.length*n);rw[<-b]at a o;have e:=wide03 c.r n f ω ω h.rows h.gap;have p:=list09 n c.d g ω ω h.deps;simp only[mo,aD,LS,LR]at e;obtain⟨w,i⟩:=ξ (rH c.r n);rw[<-i]at e ⊢;refine sPx func4 ?_;simp -dsimp[f4,tg,iK,h2,l,a,(ω:¬(4:Int)<c.r.rows.length),(ω:¬(9:Int)<m),(ω:¬(3:Int)<c.d.length)];refine aI (ae tok mixed [8] [] [(.agg [.str w.name,.lst 1 false (w.attrs.map V.str),.lst 2 false (w.rows.map aF)],[]),(LF false (c.d.map (fdOf n)),[])] υ fun C K j k=>?_);simp -implicitDefEqProofs [];refine⟨⟨j _ _ _ _ (bQ e ζ),j _ _ _ _ (bQ p ζ)⟩,k _ _ ?_⟩;simp -dsimp[aD,LS,LR]
def shq_deps{n Bd:Nat}{ws:List V}(h:ShB T Bd (n+3) 25 ws):∃ds:List Fd,ws=[.lst 2 false (ds.map sj)]/\ds.length<=maxLen/\∀d∈ds,d.l<256/\d.r<256:=by
 obtain⟨xs,rfl,hl,hx⟩:=shq_lst h T_25 rfl T_111
 obtain⟨ds,rfl,b⟩:∃ds:List Fd,xs=ds.map sj/\∀d∈ds,d.l<256/\d.r<256:=lP fun x a=>by
  obtain⟨ws,hs,_,rfl⟩:=hx x a;obtain⟨d,c,h1⟩:=shq_dep hs;subst c;exact⟨d,by simp[cZ,sj],h1⟩
 exact⟨ds,rfl,by simpa using hl,b⟩
def shq_case45{n Bd:Nat}{ws:List V}(h:ShB T Bd (n+6) 27 ws):∃c:Cs,.agg ws=iK false false c/\CsOk c:=by
 obtain⟨e,hf⟩:=shq_fld h T_27 rfl rfl
 obtain⟨a,b,c,d,rfl⟩:∃a b c d,ws=[a,b,c,d]:=by
  match ws,e with
  | [a,b,c,d],_=>exact⟨a,b,c,d,rfl⟩
 obtain⟨r,g,p1,j,l,k⟩:=shq_recipe (hf 0 _ _ rfl T_24);obtain⟨ds,f,q1,i⟩:=shq_deps (hf 1 _ _ rfl T_25);simp at g f;obtain⟨rfl,rfl,rfl⟩:=g;subst f;exact⟨⟨r,ds⟩,rfl,⟨p1,j,k,l,q1,i⟩⟩
theorem pi{n:Nat} : ∀{rs:List Rw} {c:Int},(∀r∈rs,c<r.id)->(∀r∈rs,r.vals.length=n)->(∀r∈rs,∀v∈r.vals,bO v=true)->rs.Pairwise (fun a b=>a.id<b.id)->dQ n c rs=0
 | [],_,_,_,_,_=>rfl
 | r::rs,c,h1,h2,f,e=>by
  have a1:=h1 r uN;have g:=h2 r uN;have a3:r.vals.all bO=true:=List.all_eq_true.2 (f r uN);rw[wy]at e;rw[dQ,if_neg ω,if_neg ω,a3,if_pos rfl];exact pi e.1 (fun d hr=>h2 d (uO _ hr)) (fun d hr=>f d (uO _ hr)) e.2
theorem TbV.validT{t:Tb}(h:TbV t)(a:∀r∈t.rows,0<r.id):validT t=0:=by
 unfold Go.Proofs.YtnaokiodhoadjaaGreatDoor.validT;rw[h.name,if_pos rfl,if_neg (by have:=h.attrs;have:=h.rows;omega),h.names,if_pos rfl];exact pi a h.len h.vals h.asc
def ofV_valid(m:Int):bO (ofV m)=true:=by
 unfold ofV
 repeat' split
 all_goals kernel_rfl
def wide_rows{x:Rcp}{n:Nat}(d:0<=x.gap):(∀r∈(rH x n).rows,0<r.id/\r.vals.length=n/\∀v∈r.vals,bO v=true)/\(rH x n).rows.Pairwise fun a b=>a.id<b.id:=by
 have h0:=Int.tmod_nonneg 3 d;constructor
 .intro r hr;obtain⟨i,hi,rfl⟩:=List.mem_map.1 hr;refine⟨?_,wVals_len _ _,fun v hv=>?_⟩
  .show 0<1+(i:Int)*(1+x.gap.tmod 3);have:=Int.mul_nonneg (show(0:Int)<=i by omega) (show 0<=1+x.gap.tmod 3 by omega);omega
  .obtain⟨j,_,rfl⟩:=List.mem_map.1 hv;exact ofV_valid _
 .show((tr x.rows.length).map _).Pairwise _;rw[wD];refine List.Pairwise.imp ?_ List.pairwise_lt_range;intro i j c;show 1+(i:Int)*(1+x.gap.tmod 3)<1+(j:Int)*(1+x.gap.tmod 3);have:=Int.mul_lt_mul_of_pos_right (show(i:Int)<j by omega) (show 0<1+x.gap.tmod 3 by omega);omega
theorem names_small:∀n,n<4->iT (L8.take n)=true
 | 0,_=>by kernel_rfl
 | 1,_=>by kernel_rfl
 | 2,_=>by kernel_rfl
 | 3,_=>by kernel_rfl
 | n+4,h=>by omega
structure CsV (c:Cs):Prop where
 tv:TbV (csT c)
 valid:validT (csT c)=0
 attrs:(csT c).attrs.length=csN c
 rows:(csT c).rows.length=c.r.rows.length
 small:(csT c).rows.length*(csT c).attrs.length<=9
 n4:csN c<4
 m4:c.r.rows.length<=4
 fok:ef (csF c)
 ferr:dO (csT c).attrs.length (csF c)=0
 flen:(csF c).length<=3
theorem pw:∀n,dy n<2^n
 | 0=>by simp[dy]
 | i+1=>wh (n:=i+1) (Nat.lt_trans (pw i) (wd ω ω)) (wd ω ω)
def csV{c:Cs}(h:CsOk c)(hb:csB c=true):CsV c:=by
 obtain⟨h1,h2⟩:=csN_lt h;unfold csB at hb;simp only[tt,decide_eq_true_iff]at hb;obtain⟨r1,j,i⟩:=hb
 have ha:(csT c).attrs.length=csN c:=by
  show(L8.take (csN c)).length=_;rw[vQ];have:L8.length=8:=rfl;omega
 have hr:(csT c).rows.length=c.r.rows.length:=wRows_len _ _ _;obtain⟨e,g⟩:=wide_rows (x:=c.r) (n:=csN c) h.gap
 have tv:TbV (csT c):=by
  refine⟨⟨(show(⟨#[114]⟩:ByteArray).size<=maxLen by decide),ω,ω,fun s hs=>?_⟩,ω,ω,names_small _ h1,(show cJ ⟨#[114]⟩=true by kernel_rfl),fun r hr=>?_,fun r hr=>(e r hr).2.2,g⟩
  .have hs:=uh (show s∈L8.take (csN c) from hs)
   have:∀s∈L8,s.size<=maxLen:=by
    intro s hs;simp only[L8,tw,tq,or_false]at hs
    rcases hs with rfl | rfl | rfl | rfl | rfl | rfl | rfl | rfl<;>decide
   exact this s hs
  .rw[ha];exact(e r hr).2.1
 refine⟨tv,tv.validT fun r hr=>(e r hr).1,ha,hr,by rw[ha,hr];exact j,h1,r1,⟨by simp[csF];omega,fun d b=>?_⟩,?_,by simp[csF];exact i⟩
 .obtain⟨f,a,rfl⟩:=List.mem_map.1 b;have:=h.deps f a;exact⟨vO xq ω,vO xq ω⟩
 .unfold dO;rw[if_neg (by simp[csF];omega),if_pos];rw[uZ];intro d b;obtain⟨f,a,rfl⟩:=List.mem_map.1 b;have hf:=pw (csN c);simp only[fdOk,fdOf,tt,decide_eq_true_iff,ha];exact⟨vO Nat.and_le_right hf,vO Nat.and_le_right hf⟩
structure CellsOk (t:Tb) (l:List Cr):Prop where
 sorted:aS l
 mem:∀c∈l,c∈bR t
 len:l.length<=1000000
def cellB_in{t:Tb}(_:TbV t){c:Cr} : fY t c=true↔c∈bR t:=by
 unfold fY bR hasId;simp only[tt,decide_eq_true_iff,wY,beq_iff_eq,wc,vS];constructor
 .rintro⟨⟨r,hr,hid⟩,h1,h2⟩;obtain⟨i,hi,rfl⟩:=List.mem_iff_getElem.1 hr
  have ha:c.attr.toNat<t.attrs.length:=by omega
  refine⟨i*t.attrs.length+c.attr.toNat,bc hi ha,?_⟩;rw[la t ha,cS hi,Cr.eq_iff];exact⟨hid,χ⟩
 .rintro⟨x,hx,rfl⟩
  have hn:0<t.attrs.length:=by
   rcases wz t.attrs.length with h0 | h0
   .rw[h0]at hx;omega
   .exact h0
  have hm:x / t.attrs.length<t.rows.length:=by rw[xZ hn];exact hx
  refine⟨⟨t.rows[x / t.attrs.length],ti hm,?_⟩,?_,?_⟩
  .unfold bZ;rw[cS hm]
  .unfold bZ;simp only;omega
  .unfold bZ;simp only;have:=xU x hn;omega
def chk_ok{t:Tb}{fds:List Fd}{l:List Cr}(hv:TbV t)(h1:validT t=0)(h2:dO t.attrs.length fds=0)(b:t.rows.length*t.attrs.length<=60)(hl:CellsOk t l):gy t fds l=0:=by
 unfold gy;rw[if_neg (by simp[h1]),if_neg (by simp[h2]),if_neg ω,if_neg (by simp[hl.sorted]),if_pos];rw[uZ]
 exact fun c a=>(cellB_in hv).2 (hl.mem c a)
def others_others{t:Tb}{fds:List Fd}{l:List Cr} : Okq (aQ t fds (cH t (cH t l)))↔Okq (aQ t fds l):=okq_congr fun x hx=>by
 rw[cz,cz];have:=mZ hx;constructor
 .rintro⟨_,h2⟩
  exact Classical.byContradiction fun a=>h2 ⟨this,a⟩
 .intro h;exact⟨this,fun h2=>h2.2 h⟩
end
section
open Go Go.AM Go.RowKit Go.Proofs.Tryz
def conO_row05{f:FuncId}{args:List V}{e z:Nat}(t:AM.Enters prog f)(h:∀(F:Nat->Prop) (w:World) (vals:Array Value),vals.size=args.length->(∀(i:Nat) a u,args[i]?=some a->vals[i]?=some u->Rel (AM.base F w) a u)->
  Calls prog f vals w fun e' n=>∃v,e' = .returned v/\Below w.heap.size w n/\(v = .slice none 0 0\/∃g c cur,v = .slice (some ⟨g,0,none⟩) 0 c/\w.heap.size<=g/\n.heap[g]?=some (.cells cur e (0,0))/\c<=maxLen/\cur.size=c*z)):ia prog f args fun e' y ys=>e'=e/\y=z/\ys=[]:=by
 refine⟨t,fun F w vals A q p hrel=>(h F w vals p hrel).mono fun e' n ⟨v,he,hb,hv⟩=>?_⟩
 rcases hv with hv | ⟨g,c,cur,hv,s,r,hm,hs⟩
 .have d:∀b,F b->b<n.heap.size:=fun b m=>uT (q b m) hb.size
  obtain⟨p1,_⟩:=nQ (AM.base_good d) (w:=n) 0 e z false rfl rfl rfl (uA _) (fun _ _=>rfl);refine⟨v,e,z,[],none,0,0,he,hv,fun h=>absurd rfl h,ζ,fun h=>absurd rfl h,?_,hb,rfl,rfl,rfl⟩;refine⟨d,fun k hk=>absurd (hk.2 e z [] false (by have:=hk.1;simp at this;subst this;rfl)) ζ,fun j k o hk _=>by have:=o.1;have:=hk.1;simp at *;omega,fun k bl hk=>?_⟩
  have l:k=0:=by have:=aB hk;simp at this;omega
  subst l;simp at hk;subst hk;exact⟨#[],fun h=>absurd rfl h,ζ,ζ,by simp[maxLen],(fun x hx=>by cases hx),(fun i x j c u hx=>by simp at hx)⟩
 .have d:∀b,F b->b<n.heap.size:=fun b m=>uT (q b m) hb.size
  refine⟨v,e,z,[],some ⟨g,0,none⟩,g,c,he,hv,fun _=>rfl,ζ,fun _=>s,?_,hb,rfl,rfl,rfl⟩;refine⟨d,fun k hk=>⟨(Array.getElem?_eq_some_iff.1 r).1,fun hf=>by have:=q g hf;omega⟩,fun j k o hk _=>by have:=o.1;have:=hk.1;simp at *;omega,fun k bl hk=>?_⟩
  have l:k=0:=by have:=aB hk;simp at this;omega
  subst l;simp at hk;subst hk;exact⟨cur,fun _=>r,by simpa using hs,ζ,hm,(fun x hx=>by cases hx),(fun i x j c u hx=>by simp at hx)⟩
section
def cap16b(n k:Nat)(h:n+k<=1000000000):n+k<=9223372036854775807/\(n+k)*16<=140737488355328:=by omega
def concat2(a b:List Cr)(f g:Bool)(ha:a.length<=1000000)(hb:b.length<=1000000)(hs:(a++b).length<=1000000):aK prog 67 [.lst 1 true [LC f a,LC g b]] fun r=>r=LC false (a++b):=by
 have t:a.length+b.length<=1000000:=by rw[uB]at hs;exact hs
 have h:IntKind.i64.wrap (1:Int)=1:=wrap64 ω ω;have d:IntKind.i64.wrap (2:Int)=2:=wrap64 ω ω;refine sPx func67 ?_;simp -dsimp[f67,tg,LC];refine aI (W_loopM 23 0x7ff828 zMx (σ:=Nat×Nat) (fun p=>(p.1=0/\p.2=0)\/(p.1=1/\p.2=a.length)\/(p.1=2/\p.2=a.length+b.length)) (fun p=>2-p.1) (fun p=>[(11,.int .i64 p.1),(3,.int .i64 p.2)]) (fun _=>[]) (0,0) (.inl ⟨rfl,rfl⟩) ζ rfl ζ ?_);rintro⟨i,c⟩ hx N Q m o;simp only at hx m
 rcases hx with⟨rfl,rfl⟩ | ⟨rfl,rfl⟩ | ⟨rfl,rfl⟩
 .have l:IntKind.i64.wrap ((a.length:Int))=(a.length:Int):=bA _ ω;refine wx ?_;simp -dsimp[l];refine m (1,a.length) _ _ (.inr (.inl ⟨rfl,rfl⟩)) ζ (by simp[h,d]) ⟨[],rfl⟩ ζ ζ
 .have l:IntKind.i64.wrap ((a.length:Int)+(b.length:Int))=((a.length+b.length:Nat):Int):=by rw[wrap64 ω ω];push_cast;rfl
  obtain⟨s,k⟩:=ξ (a.length+b.length);rw[<-k]at l;refine wx ?_;simp -dsimp[l,(ω:¬(s:Int)<0)];refine m (2,s) _ _ (.inr (.inr ⟨rfl,k⟩)) ζ (by simp[h,d]) ⟨[],rfl⟩ ζ ζ
 .obtain⟨s,k⟩:=ξ (a.length+b.length);rw[<-k];have q:=jr (H:=[]) (me s ω) ζ;refine wx ?_;simp -dsimp;apply o;simp -dsimp;refine q.mono ?_;rintro r H' ⟨e,z,xs,rfl,rfl,_,rfl,rfl,rfl⟩;simp -dsimp;refine aI (W_loopM 35 0x7f8000140 zMx (σ:=Nat×List Cr) (fun p=>(p.1=0/\p.2=[])\/(p.1=1/\p.2=a)\/(p.1=2/\p.2=a++b)) (fun p=>2-p.1) (fun p=>[(27,.int .i64 p.1),(6,.buf 0 0 p.2.length p.2.length)]) (fun p=>[B.buf 101 2 (p.2.map ab) false]) (0,[]) (.inl ⟨rfl,rfl⟩) ζ rfl ζ ?_);rintro⟨i,c⟩ hx v u j n;simp only at hx j
  rcases hx with⟨rfl,rfl⟩ | ⟨rfl,rfl⟩ | ⟨rfl,rfl⟩
  .by_cases h0:a=[]
   .refine wx ?_;simp -dsimp[h0,h];refine j (1,a) _ _ (.inr (.inl ⟨rfl,rfl⟩)) ζ (by simp[h0,h]) ⟨[],by simp[h0]⟩ ζ ζ
   .refine wx ?_;simp -dsimp[h0,h,(ω:a.length<=9223372036854775807),(ω:a.length*16<=140737488355328)];refine j (1,a) _ _ (.inr (.inl ⟨rfl,rfl⟩)) ζ (by simp[h]) ⟨[],ζ⟩ ζ ζ
  .by_cases h0:b=[]
   .refine wx ?_;simp -dsimp[h0,d];refine j (2,c++b) _ _ (.inr (.inr ⟨rfl,rfl⟩)) ζ (by simp[h0,d]) ⟨[],by simp[h0]⟩ ζ ζ
   .refine wx ?_;simp -dsimp[h0,d,cap16b c.length b.length ω];refine j (2,c++b) _ _ (.inr (.inr ⟨rfl,rfl⟩)) ζ (by simp[d]) ⟨[],ζ⟩ ζ ζ
  .refine wx ?_;simp -dsimp;apply n;simp -dsimp;rw[show LC false (a++b)= .lst 2 false (a.map ab++b.map ab) by simp[LC]];refine dr rfl ζ ?_;simp only[vG,wc];rintro x (⟨c,_,rfl⟩ | ⟨c,_,rfl⟩)<;>exact encCr_pure c
def pure_crs(l:List Cr):∀x∈l.map ab,AM.Pure x:=fun x hx=>by
 obtain⟨c,_,rfl⟩:=List.mem_map.1 hx;exact encCr_pure c
def qL(l:List Cr)(i:Nat):l.take i++l.drop (i+1)=l.eraseIdx i:=(List.eraseIdx_eq_take_drop_succ l i).symm
def less_u(l:List Cr)(i:Nat)(f:Bool)(hl:l.length<=1000000)(hi:i<l.length):aK prog 76 [LC f l,.int .i64 i] fun r=>r=LC false (l.eraseIdx i):=by
 have c:=concat2 (l.take i) (l.drop (i+1)) (f&&i == l.length) f χ χ χ;rw[qL]at c;simp only[LC,wM,List.map_drop]at c
 have b:i<=l.length:=by omega
 have d:i+1<=l.length:=by omega
 have a:(List.map ab l).take l.length=List.map ab l:=by rw[<-ud (f:=ab)];exact uV
 refine sPx func76 ?_;simp -dsimp[f76,tg,LC,b,d,a,aE i ω,(ω:(0:Int)<=(i:Int)+1)];refine sTx ?_
 refine oM _ (bQ c (by
  simp
  exact⟨fun x hx=>pure_crs l x (uh hx),fun x hx=>pure_crs l x (vF hx)⟩)) ?_
 simp -dsimp;rfl
open Classical in
noncomputable def fW(t:Tb)(fds:List Fd)(f:Bool)(l:List Cr)(i:Nat):Bool×List Cr :=
 if h:i<l.length then(if necB t fds (l.eraseIdx i)=true then fW t fds false (l.eraseIdx i) i else fW t fds f l (i+1)) else(f,l)
termination_by 2*l.length-i
decreasing_by
 .rw[wQ h];omega
 .omega
def coreG_ok{t:Tb}{fds:List Fd}{fixed:List Cr}(f:Bool)(l:List Cr)(i:Nat)(h:CoreSt t fds fixed l i):IsCoreP t fds (fW t fds f l i).2/\(∀c∈(fW t fds f l i).2,c∈fixed)/\aS (fW t fds f l i).2:=by
 fun_induction fW t fds f l i with
 | case1 f l i h1 h2 a=>exact a (h.drop h1 (necB_iff.1 h2))
 | case2 f l i h1 h2 a=>exact a (h.keep h1 (fun hn=>h2 (necB_iff.2 hn)))
 | case3 f l i h1 =>
  have:i=l.length:=by have:=h.le;omega
  subst this;exact⟨h.done,h.sub,h.sorted⟩
def core_u(t:Tb)(h j n cf:Bool)(fds:List Fd)(l0:List Cr)(hv:TbV t)(q:ef fds)(hs:aS l0)(hl:l0.length<=1000000):
  aK prog 38 [aD h j t,LF n fds,LC cf l0] fun r=>r=LC (fW t fds cf l0 0).1 (fW t fds cf l0 0).2:=by
 obtain⟨E,k⟩:=ξ (fW t fds cf l0 0);rw[<-k];refine sPx func38 ?_;simp -dsimp[f38,tg,aD,LS,LR,LC,LF];refine aI (W_loopM 23 0x7fff84 zMx (σ:=Bool×List Cr×Nat) (fun p=>p.2.1.length<=1000000/\aS p.2.1/\fW t fds p.1 p.2.1 p.2.2=E/\p.2.2<=p.2.1.length) (fun p=>2*p.2.1.length-p.2.2) (fun p=>[(2,.lst 2 p.1 (p.2.1.map ab)),(7,.int .i64 p.2.2)]) (fun _=>[B.cells [.str t.name,.lst 1 h (t.attrs.map V.str),.lst 2 j (t.rows.map aF)]]) (cf,l0,0) ⟨hl,hs,k.symm,ζ⟩ ζ ζ ζ ?_);rintro⟨f,l,i⟩ ⟨hl,hs,hx,hi⟩ N Q e o;simp only at hl hs hx hi e;by_cases hb:i<l.length
 .have c:=less_u l i f hl hb;have b:=necessary_u t h j n false fds (l.eraseIdx i) hv q (jH hs) (by rw[wQ hb];omega);obtain⟨d,a⟩:=ξ (l.eraseIdx i)
  have m:d.length=l.length-1:=by rw[a,wQ hb]
  have g:aS d:=a▸jH hs;rw[fW,dif_pos hb,<-a]at hx;rw[<-a]at c b;simp only[aD,LS,LR,LC,LF]at c b
  cases hq:necB t fds d with
  | true =>
   rw[hq]at b;rw[if_pos hq]at hx;refine wx ?_;simp -dsimp[hb];refine cPx c ?_;simp -dsimp;refine cPx b ?_;simp -dsimp;refine e (false,d,i) _ _ ⟨θ,g,hx,θ⟩ θ ζ ⟨[],ζ⟩ (by simp[encF_pure]) ζ
  | false =>
   rw[hq]at b;rw[if_neg (by rw[hq];simp)]at hx;refine wx ?_;simp -dsimp[hb];refine cPx c ?_;simp -dsimp;refine cPx b ?_;simp -dsimp[aE i ω];refine e (f,l,i+1) _ _ ⟨hl,hs,hx,θ⟩ θ ζ ⟨[],ζ⟩ ζ ζ
 .rw[fW,dif_neg hb]at hx;subst hx;refine wx ?_;simp -dsimp[hb];apply o;simp -dsimp;rfl
end
end
section
open Go Go.AM Go.Proofs.Tryz
noncomputable def tV(t:Tb)(fds:List Fd):Int:=open Classical in if validT t≠0 then validT t else if dO t.attrs.length fds≠0 then dO t.attrs.length fds else if 60<t.rows.length*t.attrs.length then 3 else 0
noncomputable def listE(t:Tb)(cells:List Cr):Int:=open Classical in if ¬aS cells then 1 else if cells.all (fY t) then 0 else 4
def chkE_eq(t:Tb)(fds:List Fd)(cells:List Cr):gy t fds cells=if tV t fds=0 then listE t cells else tV t fds:=by
 unfold gy tV listE;by_cases h1:validT t=0
 .rw[if_neg (show ¬validT t≠0 by simp[h1]),if_neg (show ¬validT t≠0 by simp[h1])];by_cases h2:dO t.attrs.length fds=0
  .rw[if_neg (show ¬dO t.attrs.length fds≠0 by simp[h2]),if_neg (show ¬dO t.attrs.length fds≠0 by simp[h2])];by_cases a:60<t.rows.length*t.attrs.length
   .rw[if_pos a,if_pos a,if_neg ω]
   .rw[if_neg a,if_neg a,if_pos rfl]
  .rw[if_pos h2,if_pos h2,if_neg h2]
 .rw[if_pos h1,if_pos h1,if_neg h1]
def chkE_nil(t:Tb)(fds:List Fd):gy t fds []=tV t fds:=by
 rw[chkE_eq];split
 .rename_i h;rw[h];unfold listE;rw[if_neg (by simp[aS]),if_pos ζ]
 .rfl
def check_nil(t:Tb)(d f e:Bool)(fds:List Fd)(ht:TbOk t)(g:ef fds):aK prog 34 [aD d f t,LF e fds,.nilS] fun r=>r = .int .i64 (tV t fds):=by
 have c:=check_u5 t d f e false fds [] ht g ζ;rw[chkE_nil]at c;refine pV c rfl (fun i a b ha hb=>?_)
 match i with
 | 0=>simp at ha hb;subst ha;subst hb;exact .refl _
 | 1=>simp at ha hb;subst ha;subst hb;exact .refl _
 | 2=>simp at ha hb;subst ha;subst hb;exact .nil _ _
 | k+3=>simp at ha
def bN:List Cr->List Cr->Int
 | [],[]=>0
 | [],_::_=>-1
 | _::_,[]=>1
 | x::a,y::b=>if cP x y=0 then bN a b else cP x y
theorem cmpLs_eq:∀a b,bN a b=0↔a=b
 | [],[]=>by simp[bN]
 | [],_::_=>by simp[bN]
 | _::_,[]=>by simp[bN]
 | x::a,y::b=>by
  rw[bN];by_cases h:cP x y=0
  .rw[if_pos h,cmpLs_eq a b,(jc x y).1 h];simp
  .rw[if_neg h];exact⟨fun h2=>absurd h2 h,fun h2=>by cases h2;exact absurd ((jc x x).2 rfl) h⟩
def tH(a b:Cr):cP a b<0\/a=b\/cP b a<0:=by
 rw[ft,ft];exact cLt_tri a b
def ja{a b c:Cr}(h:cP a b<0)(g:cP b c<0):cP a c<0:=by
 rw[ft]at *;exact ew h g
def cmpC_irr(a:Cr):¬cP a a<0:=by rw[ft];exact fE a
def qE{a b c:Cr}(h:¬cP a b<0)(g:¬cP b c<0):¬cP a c<0:=by
 intro d
 rcases tH a b with h1 | h1 | h1
 .exact h h1
 .subst h1;exact g d
 .exact g (ja h1 d)
def pY(a:List Cr):¬bN a a<0:=by rw[(cmpLs_eq a a).2 rfl];omega
def mu(x y:Cr)(a b:List Cr):bN (x::a) (y::b)<0↔cP x y<0\/(x=y/\bN a b<0):=by
 rw[bN];by_cases h:cP x y=0
 .rw[if_pos h];have:=(jc x y).1 h;constructor
  .intro h2;exact .inr ⟨this,h2⟩
  .rintro(h2 | ⟨_,h2⟩)
   .omega
   .exact h2
 .rw[if_neg h];constructor
  .intro h2;exact .inl h2
  .rintro(h2 | ⟨h2,_⟩)
   .exact h2
   .exact absurd ((jc x y).2 h2) h
theorem ll:∀a b:List Cr,bN a b<0\/a=b\/bN b a<0
 | [],[]=>.inr (.inl rfl)
 | [],_::_=>.inl (by rw[bN];omega)
 | _::_,[]=>.inr (.inr (by rw[bN];omega))
 | x::a,y::b=>by
  rw[mu,mu]
  rcases tH x y with h | h | h
  .exact .inl (.inl h)
  .subst h
   rcases ll a b with h2 | h2 | h2
   .exact .inl (.inr ⟨rfl,h2⟩)
   .subst h2;exact .inr (.inl rfl)
   .exact .inr (.inr (.inr ⟨rfl,h2⟩))
  .exact .inr (.inr (.inl h))
theorem iL:∀a b c:List Cr,bN a b<0->bN b c<0->bN a c<0
 | [],[],_,h,_=>by rw[bN]at h;omega
 | _::_,[],_,h,_=>by rw[bN]at h;omega
 | _,_::_,[],_,g=>by rw[bN]at g;omega
 | [],_::_,_::_,_,_=>by rw[bN];omega
 | x::a,y::b,z::c,h,g=>by
  rw[mu]at *
  rcases h with h | ⟨rfl,h⟩
  .rcases g with g | ⟨rfl,g⟩
   .exact .inl (ja h g)
   .exact .inl h
  .rcases g with g | ⟨rfl,g⟩
   .exact .inl g
   .exact .inr ⟨rfl,iL a b c h g⟩
def oT{a b c:List Cr}(h:¬bN a b<0)(g:¬bN b c<0):¬bN a c<0:=by
 intro d
 rcases ll a b with h1 | h1 | h1
 .exact h h1
 .subst h1;exact g d
 .exact g (iL _ _ _ h1 d)
def begin2(t:Tb)(L M cf:Bool)(fds:List Fd)(cells:List Cr)(hv:TbV t)(hs:aS cells)(R:cells.length<=1000000)(b0 z:B)(hb:∀bl∈[b0,z],rbB 1 bl):
  ak prog 72 [aD L M t,LC cf cells] [b0,z] fun r' H'=>r' = .ptr 3 0/\H'=iY [b0,z] L M t (aQ t fds cells).K:=by
 have hm:=hv.rows;have hn:=hv.attrs;obtain⟨K,w⟩:=ξ ((aQ t fds cells).K);rw[<-w];obtain⟨n,b⟩:=ξ t.attrs.length;obtain⟨m,G⟩:=ξ t.rows.length;have e:=b.symm;have q:=G.symm;rw[e]at hn;rw[q]at hm
 have v:∀k,1<=k->rbB k b0:=fun k hk=>gV hk (hb _ ζ)
 have u:∀k,1<=k->rbB k z:=fun k hk=>gV hk (hb _ ζ)
 refine aH tok func72 rfl rfl ?_;refine wx ?_;simp -dsimp[f72,tg,aD,LS,LR,e,q];refine aI (cx 3 1 [] 3 [1] rfl (iD _ _) ζ (cx 174 1 [] 3 [2] rfl (iD _ _) ζ (W_loopM 77 0x1ffffffffffffff80780 zMx (σ:=Nat×Nat) (fun p=>p.1<=m/\p.2=p.1*n) (fun p=>m-p.1) (fun p=>[(19,.int .i64 p.1)]) (fun p=>[b0,z,B.cells [.str t.name,.lst 1 L (t.attrs.map V.str),.lst 2 M (t.rows.map aF)],B.cells [.int .i64 n,.buf 4 0 p.2 p.2,.buf 5 0 p.2 p.2],B.buf 3 1 (paR p.2) false,B.buf 174 1 (knL K p.2) false]) (0,0) ⟨ζ,ζ⟩ ζ (by simp[paR_zero,knL_zero]) ζ ?_)));rintro⟨i,c⟩ ⟨hi,P⟩ N Q X hQ;simp only at hi P X;by_cases s:i<m
 .have hit:i<t.rows.length:=by omega
  obtain⟨rw,o⟩:=ξ (t.rows[i]);have A:=o.symm
  have al:rw.vals.length=n:=by rw[o,b];exact hv.len _ (ti hit)
  refine wx ?_;simp -dsimp[s,A,aF,hit,LV,e];refine aI (W_loopM 76 0xffffffffffffc000700 zMx (σ:=Nat×Nat) (fun p=>p.1<=n/\p.2=i*n+p.1) (fun p=>n-p.1) (fun p=>[(26,.int .i64 p.1)]) (fun p=>[b0,z,B.cells [.str t.name,.lst 1 L (t.attrs.map V.str),.lst 2 M (t.rows.map aF)],B.cells [.int .i64 n,.buf 4 0 p.2 p.2,.buf 5 0 p.2 p.2],B.buf 3 1 (paR p.2) false,B.buf 174 1 (knL K p.2) false,B.cells [.int .i64 rw.id,.lst 3 false (rw.vals.map aP)]]) (0,c) ⟨ζ,by simp[P]⟩ ζ ζ ζ ?_);rintro⟨a,j⟩ ⟨ha,l⟩ N2 Q2 x O;simp only at ha l x;by_cases d:a<n
  .have ad:=bc s d;have Z:m*n<=1000*16:=wS hm hn;have D:=paR_len j;have F:=ni K j;have I:=paR_succ j;have f:=knL_succ K j
   have J:bZ t (i*n+a)=⟨rw.id,(a:Int)⟩:=by
    rw[b,la t (b▸d),cS hit,<-o]
   have W:eG t (i*n+a)=vAt5 rw.vals a:=by
    rw[b,qf t (b▸d),cS hit,<-o]
   have g:=oV cells ⟨rw.id,(a:Int)⟩ cf R;simp only[ab]at g;have r:=tQ hs ⟨rw.id,(a:Int)⟩;have hcap:=jx j ω
   cases hq:bsF5 cells ⟨rw.id,(a:Int)⟩ with
   | true =>
    rw[hq]at g
    have y:K j=none:=by rw[w,l];exact nS (by rw[J];exact r.1 hq)
    rw[y]at f;refine wx ?_;simp -dsimp[d];refine aI (ae tok mixed [11,14] [(0,[1])] [] υ fun C K Y H=>?_);simp -implicitDefEqProofs [D,hcap];apply H;simp -dsimp;refine cPx g ?_;simp -dsimp[F,hcap,aE a ω,fm];refine x (a+1,j+1) _ _ ⟨θ,θ⟩ θ ζ ⟨[],by simp[I,f,fm]⟩ (by simp[LC]) (by simp[↓v,↓u])
   | false =>
    rw[hq]at g
    have y:K j=some (vAt5 rw.vals a):=by rw[w,l,<-W];exact ij (by rw[J];exact fun h=>by rw[r.2 h]at hq;cases hq)
    rw[y]at f
    have E:a<rw.vals.length:=by omega
    have S:=lB E;rw[S]at f;refine wx ?_;simp -dsimp[d];refine aI (ae tok mixed [11,14] [(0,[1])] [] υ fun C K Y H=>?_);simp -implicitDefEqProofs [D,hcap];apply H;simp -dsimp;refine cPx g ?_;simp -dsimp;refine aI (ae tok mixed [10,13] [(0,[1])] [] υ fun C K Y H=>?_);simp -implicitDefEqProofs [F,hcap,E,aP,fm];apply H;simp -dsimp[aE a ω];refine x (a+1,j+1) _ _ ⟨θ,θ⟩ θ ζ ⟨[],by simp[I,f,fm]⟩ (by simp[LC]) (by simp[↓v,↓u])
  .have T:a=n:=by omega
   subst T;refine wx ?_;simp -dsimp[d];apply O;simp -dsimp[aE i ω];refine X (i+1,j) _ _ ⟨θ,by simp only;rw[l,uR];omega⟩ θ ζ ⟨_,rfl⟩ (by simp[LC]) (by simp[↓v,↓u])
 .have U:i=m:=by omega
  subst U;refine wx ?_;simp -dsimp[s];apply hQ;simp -dsimp;simp[iY,LS,LR,<-G,<-b,P]
end
section
open Go Go.AM Go.RowKit Go.Proofs.Tryz
def infoD_S:(prog.info? 9).map (fun i=>(i.zero,i.size,i.bytes))=some (some (.string ⟨#[]⟩),1,16):=by kernel_rfl
def cloneE_S(A:Option Addr)(cap:Nat)(w:World):
  Calls prog 74 #[.slice A 0 cap] w fun e s=>∃v,e = .returned v/\s.ownsRow w.heap.size 9 1 v 0 []/\Below w.heap.size w s:=by
 have t:=fun W A n c=>Lib.run_eql_slice_nil (P:=prog) W 28 9 A n c 0 0 Tryz.underlying28
 cases A with
 | none =>
  go_enter func74,ntmps74
  go_wp2
  go_ret
  exact⟨_,rfl,World.ownsRow_nil _ _ _ _,Below.refl _ _⟩
 | some q =>
  obtain⟨h,hi,l,o,m⟩:=info_parts infoD_S;have f:(w.alloc (.cells #[] 9)).ownsRow w.heap.size 9 1 (.slice (some ⟨w.heap.size,0,none⟩) 0 0) 0 []:=World.ownsRow_lit w #[] 0 (uA _) (by simp[maxLen]) ζ
  have a:∀j u,([]:List Value)[j]?=some u->(w.alloc (.cells #[] 9)).cell? (q.add j)=some u:=by
   intro j u hu;simp at hu
  have b:∀u∈([]:List Value),u.oneCell'=true:=by intro u hu;cases hu
  have i:0+0<=maxLen:=by simp[maxLen]
  have k:(0+0)*16<=140737488355328:=by omega
  have d:([]:List Value).length=0*1:=by simp
  have p:=Lib.hid (show prog.info? 9=some h/\h.zero=some _/\h.size=1/\h.bytes=16 from⟨hi,l,o,m⟩);have g:=Lib.hid (And.intro f (And.intro a (And.intro b (And.intro i (And.intro k d)))));clear a b f hi l o m i k d
  go_enter func74,ntmps74
  go_wp2_with (at_builtin;refine wpList_append_own _ rfl _ _ 28 rfl w.heap.size 9 h _ 1 16 Tryz.underlying28 p.out.1 p.out.2.1 p.out.2.2.1 p.out.2.2.2 rfl ω (.slice (some ⟨w.heap.size,0,none⟩) 0 0) 0 [] rfl g.out.1 q 0 cap [] rfl g.out.2.2.2.2.2 g.out.2.1 g.out.2.2.1 g.out.2.2.2.1 g.out.2.2.2.2.1 ζ ?_;intro v1 z ho r hn;have y:=Lib.hid ho;have x:=Lib.hid r;have B:=Lib.hid hn;clear ho r hn)
  go_ret
  exact⟨v1,rfl,by have:=y.out;simpa using this,((Below.refl _ _).alloc (uA _) _).grown x.out ζ (by simp[Value.ownBlock])⟩
def cloneN_S:∀(f:Bool),aK prog 74 [.lst 1 f []] fun r=>r = .lst 1 false []:=fun f=>by
 have h:ia prog 74 [.lst 1 f []] fun e z ys=>e=9/\z=1/\ys=[]:=conO_row05 ⟨f74,func74,rfl,rfl⟩ (fun F w vals b hrel=>by
  obtain⟨u0,rfl⟩:∃u0,vals = #[u0]:=by
   obtain⟨l⟩:=vals
   match l,b with
   | [a],_=>exact⟨a,rfl⟩
  have r0:=hrel 0 _ u0 rfl rfl;cases r0
  refine(cloneE_S _ _ _).mono fun e' n ⟨v,he,d,hb⟩=>⟨v,he,hb,?_⟩
  obtain⟨_,⟨hv,_⟩ | ⟨g,c,cur,hv,m,j,hn,hm,hs,_⟩⟩:=d
  .exact .inl hv
  .exact .inr ⟨g,c,cur,hv,m,j,hm,hs⟩)
 refine⟨h.1,fun F w vals q t b hrel=>((jY h).2 F w vals q t b hrel).mono fun e n ⟨u,r,h1,h2,i,x,e',z,ys,o,p,k,s⟩=>?_⟩;subst p;subst k;subst s;exact⟨u,r,h1,h2,i,x,o⟩
def clone_S(l:List ByteArray)(f:Bool)(hl:l.length<=1000000):aK prog 74 [LS f l] fun r=>r=LS false l:=by
 cases l with
 | nil=>exact cloneN_S f
 | cons x xs =>
  have a:xs.length<=1000000:=by simp only[uX]at hl;omega
  refine sPx func74 ?_;simp -dsimp[f74,tg,LS,fk,tO xs.length ω,List.map];exact dr rfl ζ ζ
end
end Go.Proofs.YtnaokiodhoadjaaGreatDoor
section
namespace Go.Proofs.YtnaokiodhoadjaaGreatDoor
open Go Go.AM Go.Proofs.Tryz
end Go.Proofs.YtnaokiodhoadjaaGreatDoor
end
section
namespace Go.Proofs.YtnaokiodhoadjaaGreatDoor
open Go Go.AM Go.Proofs.Tryz
end Go.Proofs.YtnaokiodhoadjaaGreatDoor
end
section
namespace Go.Proofs.YtnaokiodhoadjaaGreatDoor
open Go Go.AM Go.Proofs.Tryz
end Go.Proofs.YtnaokiodhoadjaaGreatDoor
end
namespace Go.Proofs.YtnaokiodhoadjaaGreatDoor
section
open Go Go.AM Go.RowKit Go.Lib Go.Sort Go.Proofs.Tryz
def AtC(w:World)(A:Option Addr)(l:List Cr):Prop:=∀(i:Nat) (h:i<l.length),∃b o,A=some ⟨b,o,none⟩/\b<w.heap.size/\w.cell? ⟨b,o+i*2,none⟩=some (.int .i64 l[i].id)/\w.cell? ⟨b,o+i*2+1,none⟩=some (.int .i64 l[i].attr)
def AtC.grown{w:World}{A:Option Addr}{l:List Cr}(h:AtC w A l)(q:Nat)(os:Array Obj):AtC (grow (w.drewN q) os) A l:=fun i hi=>by
 obtain⟨b,o,h1,h2,a,c⟩:=h i hi;refine⟨b,o,h1,?_,?_,?_⟩
 .rw[size_grow];exact uT h2 (xR _ _)
 .rw[cell?_grow _ _ _ (by exact h2)];exact a
 .rw[cell?_grow _ _ _ (by exact h2)];exact c
def GW5(W w:World):Prop:=∃q os,w=grow (W.drewN q) os
def GW5.refl(W:World):GW5 W W:=⟨0,#[],by rw[grow_empty];rfl⟩
def GW5.more{W w b:World}(h:GW5 W w)(g:∃q os,b=grow (w.drewN q) os):GW5 W b:=by
 obtain⟨q,os,rfl⟩:=h;obtain⟨c,a,rfl⟩:=g
 exact⟨q+c,os++a,by
  rw[<-grow_grow]
  simp only[grow,World.drewN,vU]⟩
theorem GW5.alloc{W w:World}(h:GW5 W w)(o:Obj):GW5 W (w.alloc o):=h.more ⟨0,#[o],by rw[alloc_eq_grow];rfl⟩
def GW5.at{W w:World}(h:GW5 W w){A:Option Addr}{l:List Cr}(g:AtC W A l):AtC w A l:=by
 obtain⟨q,os,rfl⟩:=h;exact g.grown q os
def cmpFuncK(a b:List Cr)(A B:Option Addr)(I G:Nat)(W:World)(hA:AtC W A a)(C:AtC W B b)(ha:a.length<=1000000)(hb:b.length<=1000000):
  Calls prog 80 #[.slice A a.length I,.slice B b.length G,.func (.func 69) #[] #[]] W fun e s=>e = .returned (.int .i64 (bN a b))/\∃q d,s=grow (W.drewN q) d:=by
 have D:=fun x y W=>compareK x y W
 obtain⟨r,hr⟩:=ξ (bN a b);rw[<-hr]
 go_enter func80,ntmps80
 go_wp2
 go_loopg [13] a.length (fun g l t=>∃(i:Nat),l = .int .i64 i/\i<=a.length/\i<=b.length/\a.length-i<=g/\Aside (GW5 W t)/\bN (a.drop i) (b.drop i)=r)
 case atStart=>exact⟨0,rfl,ω,ω,ω,GW5.refl W,by rw[uG,uG,hr]⟩
 clear hr
 case round =>
  obtain⟨i,rfl,hi,J,L,c,hx⟩:=hrel;by_cases h1:i<a.length
  .obtain⟨K,M,p,H,v,n⟩:=(c.out.at hA) i h1;subst p;by_cases h2:i<b.length
   .obtain⟨w,E,m,j,k,h⟩:=(c.out.at C) i h2;subst m
    have cc0:∀o,(wr.alloc o).cell? ⟨w,E+i*2,none⟩=some (.int .i64 b[i].id):=fun o=>by rw[alloc_eq_grow,cell?_grow _ _ _ (by exact j)];exact k
    have u:∀o,(wr.alloc o).cell? ⟨w,E+i*2+1,none⟩=some (.int .i64 b[i].attr):=fun o=>by rw[alloc_eq_grow,cell?_grow _ _ _ (by exact j)];exact h
    rw[th h1,th h2,bN]at hx;generalize a[i]=x at v n hx;generalize b[i]=y at k h cc0 u hx;obtain⟨z,hz⟩:=ξ (cP x y)
    have f:=fun W=>D x y W
    rw[<-hz]at hx f;clear hz D hA C;by_cases hq:z=0
    .rw[if_pos hq]at hx;subst hq
     go_wp2_with (go_at_call 69;refine(f _).mono ?_;rintro e s ⟨rfl,q,d,rfl⟩)
     go_roundg (a.length-(i+1))
     case measure=>omega
     case rel=>exact⟨i+1,by go_num,ω,ω,uA _,((c.out.alloc _).alloc _).more ⟨q,d,rfl⟩,hx⟩
    .rw[if_neg hq]at hx
     go_wp2_with (go_at_call 69;refine(f _).mono ?_;rintro e s ⟨rfl,q,d,rfl⟩)
     go_ret
     exact⟨by first | rfl | (rw[hx];rfl),((c.out.alloc _).alloc _).more ⟨q,d,rfl⟩⟩
   .rw[th h1,tj (show b.length<=i by omega),bN]at hx
    have F:¬(i:Int)<b.length:=by omega
    go_wp2_with fail
    go_ret
    exact⟨by first | rfl | (rw[hx];rfl),c.out.alloc _⟩
  .rw[tj (show a.length<=i by omega)]at hx;by_cases h2:a.length<b.length
   .rw[th (show i<b.length by omega),bN]at hx
    go_wp2_with fail
    go_ret
    exact⟨by rw[hx];rfl,c.out⟩
   .rw[tj (show b.length<=i by omega),bN]at hx
    go_wp2_with fail
    go_ret
    exact⟨by rw[hx];rfl,c.out⟩
def listsK(a b:List Cr)(A B:Option Addr)(h f:Nat)(W:World)(hA:AtC W A a)(g:AtC W B b)(ha:a.length<=1000000)(hb:b.length<=1000000):
  Calls prog 41 #[.slice A a.length h,.slice B b.length f] W fun e d=>e = .returned (.int .i64 (bN a b))/\∃q c,d=grow (W.drewN q) c:=by
 have i:=cmpFuncK a b A B h f W hA g ha hb;clear hA g
 go_enter func41,ntmps41
 go_wp2_with (go_at_call 80;refine i.mono ?_;rintro e d ⟨rfl,q,c,rfl⟩)
 go_ret
 exact⟨rfl,q,c,rfl⟩
end
end Go.Proofs.YtnaokiodhoadjaaGreatDoor
