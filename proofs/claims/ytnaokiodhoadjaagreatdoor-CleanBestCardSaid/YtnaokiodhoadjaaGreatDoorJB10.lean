/- JB10: texts W9, W10, Pl2, W12, W13, W16, W17, K0, Wk, Pl3, Pl4, Mn, LayI, SO3, Wd, Rl, GrH, GrZ, RlL, Cl64, GrC, Gr, joined and shortened by pack6.py. -/
import Derived.Test.YtnaokiodhoadjaaGreatDoorJB9
import Derived.WalkSpells
import Derived.WalkLawsBesides
import Derived.Lib.Hide
import Derived.Maps.AppendAt
import Derived.Shelf.SlSortCmp.NoneTotal
import Derived.WalkKit
import Derived.Lib.Walk
import Derived.Lib.SliceRun
import Derived.Lib.AppendZerosOnto
import Derived.OwnWalk
set_option linter.all false
set_option maxRecDepth 100000
set_option maxHeartbeats 64000000
open Array renaming length_toList→vV
open List renaming replicate→tg,range→tr,length_cons→uX,getD→wU
open Nat renaming add_zero→vk,strongRecOn→xG
open Option renaming map_some→uS
namespace Go.Proofs.YtnaokiodhoadjaaGreatDoor
section
open Go Go.AM Go.Proofs.Tryz
def edges37(l:List (List Int))(g:Bool)(hl:l.length<=1000000)(y:∀e∈l,e.length<=1000000)(Z:∀e∈l,e≠[]):aK prog 45 [LL g l] fun r=>r=LL false (bI l):=by
 refine bM (aH (tkf 58) func45 rfl rfl ?_);refine W_x (tkf 58) mixed ?_;simp -dsimp[f45,tg,LL,L1,aL];refine aI (bh 58 1 [3] ζ (W_loopM 93 0x1ffffffffffffffffffffff8 zMx (σ:=Nat) (fun i=>i<=l.length) (fun i=>l.length-i) (fun i=>[(4,.int .i64 i),(3,.buf 0 0 (bH l i).length (bH l i).length)]) (fun i=>[B.buf 58 1 ((bH l i).map (L1 false)) false]) 0 ω (by simp[bH]) (by simp[bH]) ζ ?_));intro i hi N Q S hQ;by_cases hb:i<l.length
 .have L:=y l[i] (ti hb);have al:=Z l[i] (ti hb);have W:=kg l i
  have c:bH l (i+1)=if keepE l i then jR (bH l i) (eAt l i) else bH l i:=rfl
  have G:eAt l i=l[i]:=dV hb;rw[G]at c;obtain⟨b,u⟩:=ξ (bH l i);rw[<-u]at W c ⊢;refine W_x (tkf 58) mixed ?_;simp -dsimp[LL,hb,L1,aL];refine aI (W_loopM 47 0x7fffffffc060 zMx (σ:=Nat) (fun k=>k<=l.length) (fun k=>l.length-k) (fun k=>[(6,.int .i64 k),(5,.bool (fP l i k))]) (fun _=>[B.buf 58 1 (b.map (L1 false)) false]) 0 ω (by simp[fP]) ζ ζ ?_);intro k hk N2 Q2 s T;by_cases d:k<l.length
  ·
   have ad:=y l[k] (ti d);have t:=within37 l[k] l[i] false false ad L;have ax:eAt l k=l[k]:=dV d
   have P:fP l i (k+1)=(fP l i k&&!(eO l[k] l[i]&&(decide (l[k].length<l[i].length)||decide (k<i)))):=by simp only[fP,sr,ax,G]
   simp only[L1]at t;refine W_x (tkf 58) mixed ?_;simp -dsimp[LL,L1,hb,d,L1,aL];refine sTx ?_;refine cQx t ?_;cases h1:eO l[k] l[i]
   .rw[h1]at P;simp -dsimp[aE k ω,L1,aL];refine s (k+1) _ _ ω ω ?_ ⟨[],?_⟩ ?_ ?_<;>simp[or_imp,forall_and,L1,aG,P]
   .by_cases h2:l[k].length<l[i].length
    .simp -dsimp[aE k ω,hb,d,h2,L1,aL];refine s (k+1) _ _ ω ω ?_ ⟨[],?_⟩ ?_ ?_<;>simp[or_imp,forall_and,L1,aG,P,h1,h2]
    .by_cases R:k<i
     .simp -dsimp[aE k ω,hb,d,h2,R,L1,aL];refine s (k+1) _ _ ω ω ?_ ⟨[],?_⟩ ?_ ?_<;>simp[or_imp,forall_and,L1,aG,P,h1,h2,R]
     .simp -dsimp[aE k ω,hb,d,h2,R,L1,aL];refine s (k+1) _ _ ω ω ?_ ⟨[],?_⟩ ?_ ?_<;>simp[or_imp,forall_and,L1,aG,P,h1,h2,R]
  .obtain rfl:k=l.length:=by omega
   have p:fP l i l.length=keepE l i:=rfl;refine W_x (tkf 58) mixed ?_;simp -dsimp[d,L1,aL];apply T;simp -dsimp[L1,aL];cases M:keepE l i
   .rw[M]at c p;simp -dsimp[p,aE i ω,L1,aL];refine S (i+1) _ _ ω ω ?_ ⟨[],?_⟩ ?_ ?_<;>simp[or_imp,forall_and,L1,aG,c]
   .rw[M]at c p;simp -dsimp[p,hb,al,eb b.length ω,capL8 l[i].length ω,bA b.length ω,L1,aL];refine aI (W_loopM 93 0x1fffffffe000000000000080 zMx (σ:=Nat) (fun k=>k<=b.length/\cN b l[i] k=cN b l[i] b.length) (fun k=>k) (fun k=>[(7,.int .i64 k)]) (fun k=>[B.buf 58 1 ((bu b l[i] k).map (L1 false)) false]) b.length ⟨ω,rfl⟩ ζ (by simp[bu,L1]) ζ ?_);rintro k ⟨w,A⟩ N3 Q3 U H;by_cases X:k=0
    .subst X
     have n:bH l (i+1)=bu b l[i] 0:=by rw[c,if_pos rfl,jR,<-A];rfl
     refine W_x (tkf 58) mixed ?_;simp -dsimp[L1,aL];refine sTx ?_;apply H;simp -dsimp[aE i ω,L1,aL];refine S (i+1) _ _ ω ω ?_ ⟨[],?_⟩ ?_ ?_<;>simp[or_imp,forall_and,L1,aG,n,lQ]
    .have j:=lQ b l[i] k;have v:=insAt_k b l[i] k w ω;have q:=insAt_p b l[i] k w ω ω;have z:=sI b l[i] k w ω
     have I:k<(bu b l[i] k).length:=by omega
     have O:k-1<(bu b l[i] k).length:=by omega
     obtain⟨a,ha⟩:=ξ (eAt b (k-1));rw[<-ha]at q z;have J:a.length<=1000000:=y a (kf hi (by rw[<-u,ha,dV ω];exact ti _));have t:=before37 l[i] a false false L J;obtain⟨cur,f⟩:=ξ (bu b l[i] k);rw[<-f]at j z I O ⊢
     have v:cur[k]=l[i]:=by subst f;exact v
     have q:cur[k-1]=a:=by subst f;exact q
     have h:cN b l[i] k=if ah l[i] a then cN b l[i] (k-1) else k:=by
      obtain⟨m,rfl⟩:∃m,k=m+1:=⟨k-1,ω⟩;rw[ha];rfl
     simp only[L1]at t
     have x:cur[k]?=some l[i]:=by rw[tm I,v]
     have o:cur[k-1]?=some a:=by rw[tm O,q]
     have D:(k:Int)<(b.length:Int)+1:=by omega
     have E:((k-1:Nat):Int)<(b.length:Int)+1:=by omega
     cases F:ah l[i] a
     .rw[F]at t h
      have n:bH l (i+1)=cur:=by rw[c,if_pos rfl,jR,<-A,h,f];rfl
      refine W_x (tkf 58) mixed ?_;simp -dsimp[x,o,j,D,E,jz k ω ω,(ω:0<k),L1,aL];refine sTx ?_;refine cQx t ?_;simp -dsimp[L1,aL];apply H;simp -dsimp[aE i ω,L1,aL];refine S (i+1) _ _ ω ω ?_ ⟨[],?_⟩ ?_ ?_<;>simp[or_imp,forall_and,L1,aG,n,j]
     .rw[F]at t h;refine W_x (tkf 58) mixed ?_;simp -dsimp[x,o,j,D,E,jz k ω ω,(ω:0<k),L1,aL];refine sTx ?_;refine cQx t ?_;simp -dsimp[L1,aL]
      have Y:((cur.map (L1 false)).set k (V.lst 1 false (a.map aG)))[k-1]?=some (V.lst 1 false (a.map aG)):=by
       rw[uH ω,uK,o];rfl
      have an:((cur.map (L1 false)).set k (V.lst 1 false (a.map aG))).set (k-1) (V.lst 1 false (l[i].map aG))=(bu b l[i] (k-1)).map (L1 false):=by
       rw[<-z];simp only[xJ,L1]
      refine aI (ae (tkf 58) mixed [15,17] [(2,[1]),(3,[1]),(4,[1])] [] υ fun C K hC hK=>?_);simp -implicitDefEqProofs [x,o,j,D,E,jz k ω ω,Y,an,L1,aL];apply hK;simp -dsimp[jz k ω ω,L1,aL];refine U (k-1) _ _ ⟨ω,by rw[<-A,h];rfl⟩ ω ?_ ⟨[],?_⟩ ?_ ?_<;>simp[or_imp,forall_and,L1,aG]
 .have hp:bH l i=bI l:=by unfold bI;congr 1;omega
  refine W_x (tkf 58) mixed ?_;simp -dsimp[hb,L1,aL];apply hQ;simp -dsimp[L1,aL];rw[<-hp];exact dr rfl ζ ζ
def encU(n:Int):V:=.int .u8 n
@[simp] theorem encU_pure (n:Int):AM.Pure (encU n):=by simp[encU]
def fK(xs:List Int):asc xs=true↔xs.Pairwise (· < ·):=by
 rw[xF];constructor
 .intro h i j hi b a;exact nA h i j hi b a
 .intro h
  exact(qH xs 1 ω).2 fun j b hl=>h (j-1) j ω hl ω
end
end Go.Proofs.YtnaokiodhoadjaaGreatDoor
section
namespace Go.Proofs.YtnaokiodhoadjaaGreatDoor
open Go Go.AM Go.Proofs.Tryz
end Go.Proofs.YtnaokiodhoadjaaGreatDoor
end
namespace Go.Proofs.YtnaokiodhoadjaaGreatDoor
section
open Go Go.AM Go.RowKit Go.Proofs.Tryz
def infoC2:(prog.info? 2).map (fun i=>(i.zero,i.size,i.bytes))=some (some (.int .i64 0),1,8):=by kernel_rfl
def cloneE(A:Option Addr)(cap:Nat)(w:World):
  Calls prog 57 #[.slice A 0 cap] w fun e s=>∃v,e = .returned v/\s.ownsRow w.heap.size 2 1 v 0 []/\Below w.heap.size w s:=by
 have t:=fun W A n c=>Lib.run_eql_slice_nil (P:=prog) W 58 2 A n c 0 0 Tryz.underlying58
 cases A with
 | none =>
  go_enter func57,ntmps57
  go_wp2
  go_ret
  exact⟨_,rfl,World.ownsRow_nil _ _ _ _,Below.refl _ _⟩
 | some q =>
  obtain⟨h,hi,l,o,m⟩:=info_parts infoC2;have f:(w.alloc (.cells #[] 2)).ownsRow w.heap.size 2 1 (.slice (some ⟨w.heap.size,0,none⟩) 0 0) 0 []:=World.ownsRow_lit w #[] 0 (uA _) (by simp[maxLen]) ζ
  have a:∀j u,([]:List Value)[j]?=some u->(w.alloc (.cells #[] 2)).cell? (q.add j)=some u:=by
   intro j u hu;simp at hu
  have b:∀u∈([]:List Value),u.oneCell'=true:=by intro u hu;cases hu
  have i:0+0<=maxLen:=by simp[maxLen]
  have k:(0+0)*8<=140737488355328:=by omega
  have d:([]:List Value).length=0*1:=by simp
  have p:=Lib.hid (show prog.info? 2=some h/\h.zero=some _/\h.size=1/\h.bytes=8 from⟨hi,l,o,m⟩);have g:=Lib.hid (And.intro f (And.intro a (And.intro b (And.intro i (And.intro k d)))));clear a b f hi l o m i k d
  go_enter func57,ntmps57
  go_wp2_with (at_builtin;refine wpList_append_own _ rfl _ _ 58 rfl w.heap.size 2 h _ 1 8 Tryz.underlying58 p.out.1 p.out.2.1 p.out.2.2.1 p.out.2.2.2 rfl ω (.slice (some ⟨w.heap.size,0,none⟩) 0 0) 0 [] rfl g.out.1 q 0 cap [] rfl g.out.2.2.2.2.2 g.out.2.1 g.out.2.2.1 g.out.2.2.2.1 g.out.2.2.2.2.1 ζ ?_;intro v1 z ho r hn;have y:=Lib.hid ho;have x:=Lib.hid r;have B:=Lib.hid hn;clear ho r hn)
  go_ret
  exact⟨v1,rfl,by have:=y.out;simpa using this,((Below.refl _ _).alloc (uA _) _).grown x.out ζ (by simp[Value.ownBlock])⟩
def conO_own{f:FuncId}{args:List V}{e:Nat}(y:AM.Enters prog f)(h:∀(F:Nat->Prop) (w:World) (vals:Array Value),vals.size=args.length->(∀(i:Nat) a u,args[i]?=some a->vals[i]?=some u->Rel (AM.base F w) a u)->
  Calls prog f vals w fun e' n=>∃v,e' = .returned v/\n.ownsRow w.heap.size e 1 v 0 []/\Below w.heap.size w n):ia prog f args fun e' z ys=>e'=e/\z=1/\ys=[]:=by
 refine⟨y,fun F w vals A r q hrel=>(h F w vals q hrel).mono fun e' n ⟨v,he,o,hb⟩=>?_⟩;obtain⟨_,⟨hv,_⟩ | ⟨g,c,cur,hv,t,s,hn,hm,hs,_⟩⟩:=o
 .have d:∀b,F b->b<n.heap.size:=fun b m=>uT (r b m) hb.size
  obtain⟨p1,_⟩:=nQ (AM.base_good d) (w:=n) 0 e 1 false rfl rfl rfl (uA _) (fun _ _=>rfl);refine⟨v,e,1,[],none,0,0,he,hv,fun h=>absurd rfl h,ζ,fun h=>absurd rfl h,?_,hb,rfl,rfl,rfl⟩;refine⟨d,fun k hk=>absurd (hk.2 e 1 [] false (by have:=hk.1;simp at this;subst this;rfl)) ζ,fun j k p hk _=>by have:=p.1;have:=hk.1;simp at *;omega,fun k bl hk=>?_⟩
  have l:k=0:=by have:=aB hk;simp at this;omega
  subst l;simp at hk;subst hk;exact⟨#[],fun h=>absurd rfl h,ζ,ζ,by simp[maxLen],(fun x hx=>by cases hx),(fun i x j c u hx=>by simp at hx)⟩
 .have d:∀b,F b->b<n.heap.size:=fun b m=>uT (r b m) hb.size
  refine⟨v,e,1,[],some ⟨g,0,none⟩,g,c,he,hv,fun _=>rfl,ζ,fun _=>t,?_,hb,rfl,rfl,rfl⟩;refine⟨d,fun k hk=>⟨(Array.getElem?_eq_some_iff.1 s).1,fun hf=>by have:=r g hf;omega⟩,fun j k p hk _=>by have:=p.1;have:=hk.1;simp at *;omega,fun k bl hk=>?_⟩
  have l:k=0:=by have:=aB hk;simp at this;omega
  subst l;simp at hk;subst hk;exact⟨cur,fun _=>s,by simpa using hs,ζ,hm,(fun x hx=>by cases hx),(fun i x j c u hx=>by simp at hx)⟩
def qz(xs:List Int)(f:Bool)(hl:xs.length<=1000000):ia prog 57 [L1 f xs] fun e z ys=>e=2/\z=1/\ys=xs.map aG:=by
 cases xs with
 | nil =>
  refine conO_own ⟨f57,func57,rfl,rfl⟩ (fun F w vals b hrel=>?_)
  obtain⟨u0,rfl⟩:∃u0,vals = #[u0]:=by
   obtain⟨l⟩:=vals
   match l,b with
   | [a],_=>exact⟨a,rfl⟩
  have r0:=hrel 0 _ u0 rfl rfl;simp only[L1,wP]at r0;cases r0;exact cloneE _ _ _
 | cons x xs =>
  have c:xs.length<=1000000:=by simp only[uX]at hl;omega
  refine sOx func57 ?_;simp -dsimp[f57,tg,L1,fk,jx xs.length ω];exact⟨0,2,1,aG x::xs.map aG,ζ,rfl,ζ,rfl,rfl,rfl⟩
def clone64p(xs:List Int)(f:Bool)(hl:xs.length<=1000000):aK prog 57 [L1 f xs] fun r=>r=L1 false xs :=
 ⟨(qz xs f hl).1,fun F w vals h j a hrel=>((jY (qz xs f hl)).2 F w vals h j a hrel).mono fun e l ⟨u,r,h1,h2,b,k,e',z,ys,d,g,c,i⟩=>by
  subst g;subst c;subst i
  exact⟨u,r,h1,h2,b,k,d⟩⟩
end
end Go.Proofs.YtnaokiodhoadjaaGreatDoor
section
namespace Go.Proofs.YtnaokiodhoadjaaGreatDoor
open Go Go.AM Go.Proofs.Tryz
end Go.Proofs.YtnaokiodhoadjaaGreatDoor
end
namespace Go.Proofs.YtnaokiodhoadjaaGreatDoor
section
open Go Go.AM Go.Proofs.Tryz
def mE(us:List Int):List (V×V):=us.map fun x=>(V.int .i64 x,V.bool true)
def mE_snoc(us:List Int)(x:Int):mE (us++[x])=mE us++[(V.int .i64 x,V.bool true)]:=by simp[mE]
@[simp ↓ high] theorem rbB_mE (n:Nat) (kk:KK) (us:List Int):rbB n (.map kk (mE us))↔True:=by
 refine⟨fun _=>trivial,fun _ p hp=>?_⟩;obtain⟨x,_,rfl⟩:=List.mem_map.1 hp;exact⟨trivial,trivial⟩
@[simp ↓ high] theorem rbB_mE2 (n:Nat) (kk:KK) (us:List Int) (x:Int):rbB n (.map kk (mE us++[(V.int .i64 x,V.bool true)]))↔True:=by
 rw[<-mE_snoc];exact rbB_mE n kk _
@[simp ↓ high] theorem forall_rbB_cons (n:Nat) (b:B) (l:List B):(∀bl∈b::l,rbB n bl)↔(rbB n b/\∀bl∈l,rbB n bl):=List.forall_mem_cons
@[simp ↓ high] theorem forall_rbB_nil (n:Nat):(∀bl∈([]:List B),rbB n bl)↔True:=by simp
end
end Go.Proofs.YtnaokiodhoadjaaGreatDoor
section

end
namespace Go.Proofs.YtnaokiodhoadjaaGreatDoor
section
open Go Go.AM Go.Proofs.Tryz
def lfB:V->V->Prop
 | x,y=>y=x\/(∃z xs,x = .lst z true xs/\y = .lst z false xs)\/(∃z,x = .nilS/\y = .lst z false [])
def LfL:List V->List V->Prop
 | [],[]=>True
 | x::xs,y::ys=>lfB x y/\LfL xs ys
 | _,_=>False
theorem LfL.len:∀{xs ys:List V},LfL xs ys->xs.length=ys.length
 | [],[],_=>rfl
 | [],_::_,h=>h.elim
 | _::_,[],h=>h.elim
 | _::_,_::_,h=>by simp[h.2.len]
theorem LfL.at_:∀{xs ys:List V},LfL xs ys->∀(i:Nat) x y,xs[i]?=some x->ys[i]?=some y->lfB x y
 | [],_,_,i,x,y,h,_=>by simp at h
 | _::_,[],h,_,_,_,_,_=>h.elim
 | a::xs,b::ys,h,0,x,y,h1,h2=>by simp at h1 h2;subst h1;subst h2;exact h.1
 | a::xs,b::ys,h,i+1,x,y,h1,h2=>h.2.at_ i x y (by simpa using h1) (by simpa using h2)
def ma{s:AM.St}{x y:V}{u:Value}(h:Rel s x u)(hl:lfB x y):Rel s y u:=by
 rcases hl with rfl | ⟨z,xs,rfl,rfl⟩ | ⟨z,rfl,rfl⟩
 .exact h
 .cases h with
  | lst _ _ _ A cap b off u hcap hfull hA hz hcell hrel=>exact .lst z false xs A cap b off u hcap (fun h=>by cases h) hA hz hcell hrel
 .cases h;exact dq z false none 0 (fun _=>rfl)
def lf_one{x y:V}(hl:lfB x y)(h:x.one=true):y.one=true:=by
 rcases hl with rfl | ⟨z,xs,rfl,rfl⟩ | ⟨z,rfl,rfl⟩
 .exact h
 .rfl
 .rfl
def W_lf{P:Program}(k0:Nat)(g b:List V){c:Code}{Q:Exit->List V->List B->Prop}{fr:List V}{H:List B}{cs:List V}(hk:H[k0]?=some (.cells cs))(ho:LfL fr g)(j:LfL cs b)
  (h:W P c Q g (H.set k0 (.cells b))):W P c Q fr H:=by
 intro s a hA k hf f;obtain⟨rfl,m⟩:=hA;have e:=bj (w:=s.w) (bl':=.cells b) k hk (lvC hk) trivial rfl rfl rfl (uA _) (fun _ _ _=>rfl);have hl:=ho.len;have n:=j.len
 have l:AM.Good (s.setB s.w k0 (.cells b)):=by
  refine bw k hk (lvC hk) trivial rfl rfl rfl (uA _) (fun _ _ _=>rfl) (fun e=>?_);obtain⟨h1,vs,t,h2,p,o⟩:=k.blk k0 _ hk;refine⟨fun d f=>?_,vs,t,h2,ω,fun i d u f hu=>?_⟩
  .obtain⟨i,hi⟩:=List.mem_iff_getElem?.1 f;have hx:cs[i]?=some (cs[i]'(by have:=aB hi;omega)):=tm _;exact lf_one (j.at_ i _ d hx hi) (h1 _ (ti _))
  .have hx:cs[i]?=some (cs[i]'(by have:=aB f;omega)):=tm _;exact(ma (o i _ u hx hu) (j.at_ i _ d hx f)).step e
 have:=h (s.setB s.w k0 (.cells b)) a ⟨rfl,m.step e⟩ l ⟨by rw[hf.len,hl],fun i v u hv hu=>by
  have hx:fr[i]?=some (fr[i]'(by have:=aB hv;omega)):=tm _
  exact(ma (hf.rel i _ u hx hu) (ho.at_ i _ v hx hv)).step e⟩ f
 exact wp_mono this fun _ _ _ hl=>cK e hl
def lfB_refl(x:V):lfB x x:=.inl rfl
theorem lfL_refl:∀xs:List V,LfL xs xs
 | []=>trivial
 | x::xs=>⟨lfB_refl x,lfL_refl xs⟩
def gK{a b:List Int} : eO a b=true↔∀x∈a,x∈b:=by
 unfold eO;rw[uZ];exact⟨fun h x hx=>bP.1 (h x hx),fun h x hx=>bP.2 (h x hx)⟩
theorem iE:∀a:List Int,ah a a=false
 | []=>rfl
 | x::xs=>by simp only[ah,if_true];exact iE xs
theorem nf:∀a b:List Int,a≠b->ah a b=false->ah b a=true
 | [],[],h,_=>absurd rfl h
 | [],_::_,_,h=>by simp[ah]at h
 | _::_,[],_,_=>rfl
 | x::xs,y::ys,h,hl=>by
  simp only[ah]at hl ⊢;by_cases c:x=y
  .subst c;rw[if_pos rfl]at hl ⊢;exact nf xs ys (fun e=>h (by rw[e])) hl
  .rw[if_neg c]at hl;rw[if_neg (fun e=>c e.symm)];simp only[decide_eq_false_iff_not]at hl;simp only[decide_eq_true_eq];omega
theorem gF:∀a b c:List Int,ah a b=true->ah b c=true->ah a c=true
 | [],[],_,h,_=>by simp[ah]at h
 | [],_::_,[],_,h=>by simp[ah]at h
 | [],_::_,_::_,_,_=>rfl
 | _::_,[],_,h,_=>by simp[ah]at h
 | _::_,_::_,[],_,h=>by simp[ah]at h
 | x::xs,y::ys,z::zs,h1,h2=>by
  simp only[ah]at h1 h2 ⊢;by_cases d:x=y
  .subst d;rw[if_pos rfl]at h1;by_cases e:x=z
   .subst e;rw[if_pos rfl]at h2 ⊢;exact gF xs ys zs h1 h2
   .rw[if_neg e]at h2 ⊢;exact h2
  .rw[if_neg d]at h1;simp only[decide_eq_true_eq]at h1;by_cases f:y=z
   .subst f;rw[if_neg d];simpa using h1
   .rw[if_neg f]at h2;simp only[decide_eq_true_eq]at h2;rw[if_neg ω];simp only[decide_eq_true_eq];omega
structure Hyp (vs:List Int) (es:List (List Int)):Prop where
 va:vs.Pairwise (· < ·)
 ne:∀e∈es,e≠[]
 ea:∀e∈es,e.Pairwise (· < ·)
 sub:∀e∈es,∀x∈e,x∈vs
 lex:es.Pairwise fun a b=>ah a b=true
 min:es.Pairwise fun a b=>¬(∀x∈a,x∈b)/\¬(∀x∈b,x∈a)
theorem pG{l:List (List Int)}{i:Nat} : ∀{n:Nat},fP l i n=true->∀k,k<n->sr l i k=false
 | 0,_,k,hk=>absurd hk ω
 | n+1,h,k,hk=>by
  simp only[fP,tt,uj]at h
  rcases uP k n with h1 | h1
  .exact pG h.1 k h1
  .obtain rfl:k=n:=by omega
   exact h.2
theorem insPos_le(a:List (List Int))(e:List Int):∀k,cN a e k<=k
 | 0=>by simp[cN]
 | k+1=>by
  simp only[cN];split
  .have:=insPos_le a e k;omega
  .omega
theorem insPos_hi(a:List (List Int))(e:List Int):∀k,∀j,cN a e k<=j->j<k->ah e (eAt a j)=true
 | 0,j,_,h=>absurd h ω
 | k+1,j,h1,h2=>by
  simp only[cN]at h1;split at h1
  .rename_i b
   rcases uP j k with c | c
   .exact insPos_hi a e k j h1 c
   .obtain rfl:j=k:=by omega
    exact b
  .omega
theorem insPos_lo(a:List (List Int))(e:List Int):∀k,0<cN a e k->ah e (eAt a (cN a e k-1))=false
 | 0,h=>by simp[cN]at h
 | k+1,h=>by
  simp only[cN]at h ⊢;split
  .rename_i b;rw[if_pos b]at h;exact insPos_lo a e k h
  .rename_i b;simpa using b
def ins_lex{c:List (List Int)}{e:List Int}(h:c.Pairwise fun a b=>ah a b=true)(d:∀a∈c,a≠e):(jR c e).Pairwise fun a b=>ah a b=true:=by
 have hp:=insPos_le c e c.length;have hi:=insPos_hi c e c.length;have lo:=insPos_lo c e c.length;unfold jR bu;generalize cN c e c.length=p at hp hi lo
 have t2:∀a∈c.drop p,ah e a=true:=fun a ha=>by
  obtain⟨j,f,rfl⟩:=List.mem_iff_getElem.1 ha;simp only[xP]at f;simp only[List.getElem_drop];have:=hi (p+j) ω ω
  rwa [dV ω]at this
 have t1:∀a∈c.take p,ah a e=true:=fun a ha=>by
  obtain⟨j,f,rfl⟩:=List.mem_iff_getElem.1 ha;simp only[vQ]at f;simp only[List.getElem_take];have h0:=lo ω;rw[dV ω]at h0;have h1:=nf e c[p-1] (fun he=>d _ (ti _) he.symm) h0
  rcases uP j (p-1) with g | g
  .exact gF _ _ _ (List.pairwise_iff_getElem.1 h j (p-1) ω ω g) h1
  .obtain rfl:j=p-1:=by omega
   exact h1
 rw[vw,wy];refine⟨h.sublist (List.take_sublist _ _),⟨t2,h.sublist (List.drop_sublist _ _)⟩,fun a ha b hb=>?_⟩
 rcases List.mem_cons.1 hb with rfl | hb
 .exact t1 a ha
 .exact gF _ _ _ (t1 a ha) (t2 b hb)
theorem edges_inv{l:List (List Int)} : ∀{i:Nat},i<=l.length->((bH l i).Pairwise fun a b=>ah a b=true)/\∀e∈bH l i,∃j,j<i/\keepE l j=true/\e=eAt l j
 | 0,_=>by simp[bH]
 | i+1,hi=>by
  obtain⟨h1,h2⟩:=edges_inv (l:=l) (i:=i) ω;simp only[bH];split
  .rename_i hk;refine⟨ins_lex h1 (fun a ha he=>?_),fun e he=>?_⟩
   .obtain⟨j,d,_,rfl⟩:=h2 a ha;have:=pG hk j ω
    have f:eO (eAt l j) (eAt l i)=true:=by rw[he];exact gK.2 fun x hx=>hx
    simp[sr,f,d]at this
   .rcases insE_mem he with rfl | he
    .exact⟨i,ω,hk,rfl⟩
    .obtain⟨j,d,c,rfl⟩:=h2 e he;exact⟨j,ω,c,rfl⟩
  .exact⟨h1,fun e he=>by obtain⟨j,d,c,rfl⟩:=h2 e he;exact⟨j,ω,c,rfl⟩⟩
def MinM(l:List (List Int))(e:List Int):Prop:=e∈l/\∀d∈l,(∀x∈d,x∈e)->e.length<=d.length
structure LexSet (es:List (List Int)) (p:List Int->Prop):Prop where
 ord:es.Pairwise fun a b=>ah a b=true
 mem:∀e,e∈es↔p e
theorem lex_ext:∀(a b:List (List Int)),(a.Pairwise fun x y=>ah x y=true)->(b.Pairwise fun x y=>ah x y=true)->(∀e,e∈a↔e∈b)->a=b
 | [],[],_,_,_=>rfl
 | [],y::_,_,_,h=>absurd ((h y).2 (uN ..)) ζ
 | x::_,[],_,_,h=>absurd ((h x).1 (uN ..)) ζ
 | x::xs,y::ys,hx,d,h=>by
  rw[wy]at hx d
  have f:x=y:=by
   rcases List.mem_cons.1 ((h x).1 (uN ..)) with e | e
   .exact e
   .rcases List.mem_cons.1 ((h y).2 (uN ..)) with c | c
    .exact c.symm
    .have h1:=d.1 x e;have h2:=hx.1 y c;have g:=gF _ _ _ h1 h2;rw[iE]at g;cases g
  subst f;congr 1;refine lex_ext xs ys hx.2 d.2 (fun e=>?_);constructor
  .intro he
   rcases List.mem_cons.1 ((h e).1 (uO _ he)) with c | c
   .subst c;have:=hx.1 _ he;rw[iE]at this;cases this
   .exact c
  .intro he
   rcases List.mem_cons.1 ((h e).2 (uO _ he)) with c | c
   .subst c;have:=d.1 _ he;rw[iE]at this;cases this
   .exact c
def LexSet.eq{a b:List (List Int)}{p q:List Int->Prop}(ha:LexSet a p)(hb:LexSet b q)(h:∀e,p e↔q e):a=b :=
 lex_ext a b ha.ord hb.ord (fun e=>by rw[ha.mem,hb.mem,h])
def first_nat{p:Nat->Prop} : ∀n,p n->∃j,p j/\∀k,k<j->¬p k:=by
 intro n
 induction n using xG with
 | ind n b =>
  intro h;by_cases hk:∃k,k<n/\p k
  .obtain⟨k,h1,h2⟩:=hk;exact b k h1 h2
  .exact⟨n,h,fun k a hp=>hk ⟨k,a,hp⟩⟩
def insE_in{a:List (List Int)}{e x:List Int}(h:x=e\/x∈a):x∈jR a e:=by
 unfold jR bu
 rcases h with rfl | h
 .simp
 .have h2:=vT (cN a e a.length) a;rw[<-h2]at h
  rcases List.mem_append.1 h with h | h
  .exact xK _ h
  .exact wF _ (uO _ h)
theorem edges_all{l:List (List Int)} : ∀{i:Nat},i<=l.length->∀j,j<i->keepE l j=true->eAt l j∈bH l i
 | 0,_,j,h,_=>by omega
 | i+1,hi,j,b,hk=>by
  simp only[bH];by_cases a:j=i
  .subst a;rw[if_pos hk];exact insE_in (.inl rfl)
  .have:=edges_all (l:=l) (i:=i) ω j ω hk;split
   .exact insE_in (.inr this)
   .exact this
theorem keepTo_of{l:List (List Int)}{i:Nat} : ∀{n:Nat},(∀k,k<n->sr l i k=false)->fP l i n=true
 | 0,_=>rfl
 | n+1,h=>by
  rw[fP,keepTo_of (n:=n) (fun k hk=>h k ω),h n ω];rfl
theorem kv:∀(b a:List Int),a.Pairwise (· < ·)->b.Pairwise (· < ·)->(∀x∈a,x∈b)->a.Sublist b
 | [],a,_,_,hs=>by
  cases a with
  | nil=>exact List.Sublist.slnil
  | cons x a=>exact absurd (hs x (uN ..)) ζ
 | y::b,a,ha,hb,hs=>by
  cases a with
  | nil=>exact List.nil_sublist _
  | cons x a =>
   rw[wy]at ha hb
   rcases List.mem_cons.1 (hs x (uN ..)) with e | e
   .subst e
    exact(kv b a ha.2 hb.2 (fun z hz=>by
     rcases List.mem_cons.1 (hs z (uO _ hz)) with e | e
     .have:=ha.1 z hz;omega
     .exact e)).cons_cons x
   .have f:=hb.1 x e
    exact(kv b (x::a) (List.pairwise_cons.2 ha) hb.2 (fun z hz=>by
     rcases List.mem_cons.1 (hs z hz) with d | d
     .rcases List.mem_cons.1 hz with c | c
      .omega
      .have:=ha.1 z c;omega
     .exact d)).cons y
def mz{a b:List Int}(ha:a.Pairwise (· < ·))(hb:b.Pairwise (· < ·))(hs:∀x∈a,x∈b)(hl:b.length<=a.length):a=b:=by
 have d:a.Nodup:=ha.imp fun {x y} h=>by omega
 have c:b.Nodup:=hb.imp fun {x y} h=>by omega
 exact(kv b a ha hb hs).eq_of_length_le hl
def lY{l:List (List Int)}(hl:∀e∈l,e.Pairwise (· < ·)):LexSet (bI l) (MinM l):=by
 obtain⟨h1,h2⟩:=edges_inv (l:=l) (i:=l.length) (uA _)
 have hm:∀j,j<l.length->eAt l j∈l:=fun j b=>by rw[dV b];exact ti b
 refine⟨h1,fun e=>⟨fun he=>?_,fun he=>?_⟩⟩
 .obtain⟨j,b,hk,rfl⟩:=h2 e he;refine⟨hm j b,fun d r hs=>?_⟩;obtain⟨k,h,rfl⟩:=List.mem_iff_getElem.1 r;have:=pG hk k h;unfold sr at this;rw[dV h,gK.2 hs,uF,Bool.or_eq_false_iff]at this;have:=of_decide_eq_false this.1;omega
 .obtain⟨c,f⟩:=he;obtain⟨q,m,rfl⟩:=List.mem_iff_getElem.1 c;obtain⟨j,⟨b,g⟩,a⟩:=first_nat (p:=fun j=>j<l.length/\eAt l j=l[q]) q ⟨m,dV m⟩;rw[<-g];refine edges_all (uA _) j b (keepTo_of fun k hk=>?_);unfold sr;rw[Bool.and_eq_false_iff]
  cases s:eO (eAt l k) (eAt l j) with
  | false=>exact .inl rfl
  | true =>
   right;have hs:=gK.1 s;rw[g]at hs ⊢;have n:=f _ (hm k hk) hs;rw[Bool.or_eq_false_iff,decide_eq_false_iff_not,decide_eq_false_iff_not];refine⟨ω,fun o=>a k o ⟨hk,?_⟩⟩;exact mz (hl _ (hm k hk)) (hl _ c) hs n
def smK(all:List (List Int))(l:List Int):Bool:=(tr l.length).any fun i=>decide (1<l.length)&&all.contains [l.getD i 0]||decide (2<l.length)&&all.contains (l.eraseIdx i)
def contL{all:List (List Int)}{e:List Int} : all.contains e=true↔e∈all:=by simp
def erase_sub(l:List Int)(i:Nat):∀x∈l.eraseIdx i,x∈l:=fun x h=>List.mem_of_mem_eraseIdx h
def miss_erase:∀(d l:List Int),l.Pairwise (· < ·)->d.Pairwise (· < ·)->(∀x∈d,x∈l)->d.length+1=l.length->∃i,i<l.length/\d=l.eraseIdx i:=fun d l hl n hs k=>by
 have c:l.Nodup:=hl.imp fun {x y} h=>by omega
 have a:∃i,i<l.length/\∀x∈d,x∈l.eraseIdx i:=by
  refine Classical.byContradiction fun f=>?_
  have hall:∀x∈l,x∈d:=fun x hx=>by
   obtain⟨i,hi,rfl⟩:=List.mem_iff_getElem.1 hx
   refine Classical.byContradiction fun b=>f ⟨i,hi,fun y g=>?_⟩
   rw[List.mem_eraseIdx_iff_getElem];obtain⟨j,o,rfl⟩:=List.mem_iff_getElem.1 (hs y g);exact⟨j,o,fun e=>b (by subst e;exact g),rfl⟩
  have:=c.length_le_of_subset hall;omega
 obtain⟨i,hi,h⟩:=a
 have m:(l.eraseIdx i).length+1=l.length:=by rw[wQ hi];omega
 exact⟨i,hi,mz n (hl.sublist (List.eraseIdx_sublist ..)) h ω⟩
def sm_min{all:List (List Int)}(hA:∀d∈all,d.Pairwise (· < ·)/\d≠[]/\d.length<=3)(l:List Int):(l∈all/\smK all l=false)↔MinM all l:=by
 constructor
 .rintro⟨hl,a⟩;refine⟨hl,fun d e hs=>?_⟩
  refine Classical.byContradiction fun j=>?_
  obtain⟨a1,m,a3⟩:=hA l hl;obtain⟨d1,d2,d3⟩:=hA d e;have k:0<d.length:=List.length_pos_iff.2 d2
  have c:smK all l=true:=by
   unfold smK;rw[wY];by_cases f:d.length=1
   .obtain⟨x,rfl⟩:=List.length_eq_one_iff.1 f;obtain⟨i,hi,hx⟩:=List.mem_iff_getElem.1 (hs x ζ);refine⟨i,List.mem_range.2 hi,?_⟩;rw[vA];left;rw[show l.getD i 0=l[i] by simp[wU,hi],hx,decide_eq_true ω,uF];exact contL.2 e
   .obtain⟨i,hi,g⟩:=miss_erase d l a1 d1 hs ω;refine⟨i,List.mem_range.2 hi,?_⟩;rw[vA];right;rw[<-g,decide_eq_true ω,uF];exact contL.2 e
  rw[c]at a;cases a
 .rintro⟨hl,b⟩;refine⟨hl,?_⟩
  cases a:smK all l with
  | false=>rfl
  | true =>
   exfalso;unfold smK at a;rw[wY]at a;obtain⟨i,hi,h⟩:=a;rw[vS]at hi;rw[vA]at h
   rcases h with h | h
   .rw[tt,show l.getD i 0=l[i] by simp[wU,hi]]at h;have:=b _ (contL.1 h.2) (fun x hx=>by rw[uQ]at hx;subst hx;exact ti hi);have:=of_decide_eq_true h.1;simp at *;omega
   .rw[tt]at h;have:=b _ (contL.1 h.2) (erase_sub l i);rw[wQ hi]at this;omega
def cpL(l:List (List Int)):Nat->List (List Int)
 | 0=>[]
 | 1=>[eAt l 0]
 | p+2=>if eAt l p=eAt l (p+1) then cpL l (p+1) else cpL l (p+1)++[eAt l (p+1)]
def eB(l:List (List Int)):List (List Int):=if l=[] then [] else cpL l l.length
def gO{l:List (List Int)}{k:Nat}(h:k<l.length):l.take (k+1)=l.take k++[eAt l k]:=by rw[tz h,dV h]
theorem cpL_ok{l:List (List Int)}(hs:l.Pairwise fun x y=>ah y x=false):∀p,1<=p->p<=l.length->(∃L,cpL l p=L++[eAt l (p-1)])/\((cpL l p).Pairwise fun x y=>ah x y=true)/\∀x,x∈cpL l p↔x∈l.take p
 | 0,h,_=>by omega
 | 1,_,hl=>by
  refine⟨⟨[],rfl⟩,by simp[cpL],fun x=>?_⟩;rw[gO (k:=0) ω];simp[cpL]
 | p+2,_,hl=>by
  obtain⟨⟨L,h1⟩,h2,f⟩:=cpL_ok hs (p+1) ω ω;rw[wH]at h1;rw[cpL,(ω:p+2-1=p+1)]
  have c:∀x,x∈l.take (p+2)↔x∈l.take (p+1)\/x=eAt l (p+1):=fun x=>by
   rw[gO (k:=p+1) ω];simp
  split
  .rename_i he;refine⟨⟨L,by rw[h1,he]⟩,h2,fun x=>?_⟩;rw[c,f];constructor
   .exact .inl
   .rintro(h | h)
    .exact h
    .rw[h,<-he,<-f,h1];simp
  .rename_i he;refine⟨⟨_,rfl⟩,?_,fun x=>?_⟩
   .have d:ah (eAt l p) (eAt l (p+1))=true:=by
     have:=List.pairwise_iff_getElem.1 hs p (p+1) ω ω ω;rw[<-dV (show p<l.length by omega),<-dV (show p+1<l.length by omega)]at this;exact nf _ _ (fun e=>he e.symm) this
    refine List.pairwise_append.2 ⟨h2,ζ,fun a ha b hb=>?_⟩;rw[uQ]at hb;subst hb;rw[h1]at ha h2
    rcases List.mem_append.1 ha with h | h
    .exact gF _ _ _ ((List.pairwise_append.1 h2).2.2 a h _ ζ) d
    .rw[uQ]at h;subst h;exact d
   .rw[c,vG,f,uQ]
def compL_ok{l:List (List Int)}(hs:l.Pairwise fun x y=>ah y x=false):LexSet (eB l) (·∈l):=by
 unfold eB;by_cases h:l=[]
 .subst h;exact⟨ζ,ζ⟩
 .rw[if_neg h];obtain⟨_,h1,h2⟩:=cpL_ok hs l.length (List.length_pos_iff.2 h) (uA _);rw[uV]at h2;exact⟨h1,h2⟩
def jZ(a b:List Int):eZ a b<0↔ah a b=true:=by
 have:=cmpL_lex a b
 cases h:ah a b with
 | true=>rw[h]at this;have:=of_decide_eq_false this;simp;omega
 | false=>rw[h]at this;have:=of_decide_eq_true this;simp;omega
def cmpL_irr(a:List Int):¬eZ a a<0:=by rw[jZ,iE];simp
def mv(a b c:List Int):eZ a b<0->eZ b c<0->eZ a c<0:=by rw[jZ,jZ,jZ];exact gF a b c
def cmpL_tri(a b:List Int):eZ a b<0\/a=b\/eZ b a<0:=by
 rw[jZ,jZ];by_cases he:a=b
 .exact .inr (.inl he)
 .cases h:ah a b with
  | true=>exact .inl rfl
  | false=>exact .inr (.inr (nf a b he h))
def qD{a b c:List Int}(h:¬eZ a b<0)(g:¬eZ b c<0):¬eZ a c<0:=by
 intro d
 rcases cmpL_tri a b with h1 | h1 | h1
 .exact h h1
 .subst h1;exact g d
 .exact g (mv _ _ _ h1 d)
end
section
open Go Go.Shelf Go.AM Go.Proofs.Tryz
def renI:Go.Shelf.Ren:=⟨fun n=>match n with
  | 6=>158
  | 14=>218
  | 15=>79
  | 20=>256
  | 21=>257
  | 22=>258
  | 23=>259
  | 24=>260
  | 25=>261
  | 26=>262
  | 27=>263
  | 28=>127
  | 29=>128
  | 46=>279
  | 47=>183
  | 48=>184
  | 49=>280
  | 50=>281
  | 57=>288
  | n=>n,fun n=>match n with
  | 0=>0
  | 3=>3
  | 4=>4
  | 5=>5
  | 9=>9
  | 22=>91
  | 24=>58
  | 25=>256
  | 39=>179
  | 45=>220
  | 46=>221
  | 50=>96
  | 53=>37
  | 55=>228
  | 66=>274
  | 70=>278
  | 76=>318
  | 77=>319
  | n=>n,fun n=>n⟩
def layI:Go.Proofs.SlLaysF0.n6 prog renI:={
 mixed:=by kernel_rfl
 f6:=⟨f158.name,by decide,func158.trans (congrArg some υ)⟩
 f14:=⟨f218.name,by decide,func218.trans (congrArg some υ)⟩
 f15:=func79.trans (congrArg some υ)
 f20:=⟨f256.name,by decide,func256.trans (congrArg some υ)⟩
 f21:=⟨f257.name,by decide,func257.trans (congrArg some υ)⟩
 f22:=⟨f258.name,by decide,func258.trans (congrArg some υ)⟩
 f23:=⟨f259.name,by decide,func259.trans (congrArg some υ)⟩
 f24:=⟨f260.name,by decide,func260.trans (congrArg some υ)⟩
 f25:=⟨f261.name,by decide,func261.trans (congrArg some υ)⟩
 f26:=⟨f262.name,by decide,func262.trans (congrArg some υ)⟩
 f27:=⟨f263.name,by decide,func263.trans (congrArg some υ)⟩
 f28:=func127.trans (congrArg some υ)
 f29:=func128.trans (congrArg some υ)
 f46:=⟨f279.name,by decide,func279.trans (congrArg some υ)⟩
 f47:=func183.trans (congrArg some υ)
 f48:=func184.trans (congrArg some υ)
 f49:=⟨f280.name,by decide,func280.trans (congrArg some υ)⟩
 f50:=⟨f281.name,by decide,func281.trans (congrArg some υ)⟩
 f57:=⟨f288.name,by decide,func288.trans (congrArg some υ)⟩
 t0:=Tryz.underlying0
 a0:=Tryz.isAgg0
 z0:=Tryz.sizeOf0
 v0:=Tryz.zeroValue0
 t3:=Tryz.underlying3
 a3:=Tryz.isAgg3
 z3:=Tryz.sizeOf3
 v3:=Tryz.zeroValue3
 t4:=Tryz.underlying4
 a4:=Tryz.isAgg4
 z4:=Tryz.sizeOf4
 v4:=Tryz.zeroValue4
 t5:=Tryz.underlying5
 a5:=Tryz.isAgg5
 z5:=Tryz.sizeOf5
 v5:=Tryz.zeroValue5
 t9:=Tryz.underlying9
 a9:=Tryz.isAgg9
 z9:=Tryz.sizeOf9
 v9:=Tryz.zeroValue9
 t22:=Tryz.underlying91
 a22:=Tryz.isAgg91
 z22:=Tryz.sizeOf91
 v22:=Tryz.zeroValue91
 t25:=Tryz.underlying256
 a25:=Tryz.isAgg256
 z25:=Tryz.sizeOf256
 v25:=Tryz.zeroValue256
 t39:=Tryz.underlying179
 a39:=Tryz.isAgg179
 z39:=Tryz.sizeOf179
 v39:=Tryz.zeroValue179
 t45:=Tryz.underlying220
 a45:=Tryz.isAgg220
 z45:=Tryz.sizeOf220
 v45:=Tryz.zeroValue220
 t46:=Tryz.underlying221
 a46:=Tryz.isAgg221
 z46:=Tryz.sizeOf221
 v46:=Tryz.zeroValue221
 t50:=Tryz.underlying96
 a50:=Tryz.isAgg96
 z50:=Tryz.sizeOf96
 v50:=Tryz.zeroValue96
 t53:=Tryz.underlying37
 a53:=Tryz.isAgg37
 z53:=Tryz.sizeOf37
 v53:=Tryz.zeroValue37
 t55:=Tryz.underlying228
 a55:=Tryz.isAgg228
 z55:=Tryz.sizeOf228
 v55:=Tryz.zeroValue228
 t66:=Tryz.underlying274
 a66:=Tryz.isAgg274
 z66:=Tryz.sizeOf274
 v66:=Tryz.zeroValue274
 t70:=Tryz.underlying278
 a70:=Tryz.isAgg278
 z70:=Tryz.sizeOf278
 v70:=Tryz.zeroValue278
 t76:=Tryz.underlying318
 a76:=Tryz.isAgg318
 z76:=Tryz.sizeOf318
 v76:=Tryz.zeroValue318
 t77:=Tryz.underlying319
 a77:=Tryz.isAgg319
 z77:=Tryz.sizeOf319
 v77:=Tryz.zeroValue319 }
end
section
open Go Go.AM Go.RowKit Go.Lib Go.Sort Go.Proofs.Tryz
def cF(ls:List (List Int)):List (List Int):=ls.mergeSort fun x y=>!(ltOf eZ) y x
def eJ(l:List (List Int)):(cF l).Perm l:=xm _ _
def gR(l:List (List Int)):(cF l).length=l.length:=(eJ l).length_eq
def swoI:SWO (ltOf eZ) where
 irrefl x:=by unfold ltOf;exact decide_eq_false (cmpL_irr x)
 trans x y z h g:=by unfold ltOf at *;exact decide_eq_true (mv _ _ _ (of_decide_eq_true h) (of_decide_eq_true g))
 ntrans x y z h g:=by unfold ltOf at *;exact decide_eq_false (qD (of_decide_eq_false h) (of_decide_eq_false g))
def totI(x y:List Int)(h:ltOf eZ x y=false)(g:ltOf eZ y x=false):x=y:=by
 unfold ltOf at *
 rcases cmpL_tri x y with h1 | h1 | h1
 .exact absurd h1 (of_decide_eq_false h)
 .exact h1
 .exact absurd h1 (of_decide_eq_false g)
def sortLi_sorted(l:List (List Int)):(cF l).Pairwise fun x y=>¬eZ y x<0:=by
 have:=xQ (le:=fun x y=>!(ltOf eZ) y x) (fun a b c h g=>by
  simp only[uj,ltOf,decide_eq_false_iff_not]at *
  exact qD g h) (fun a b=>by
  simp only[vA,uj,ltOf,decide_eq_false_iff_not];by_cases h:eZ b a<0
  .right;intro g;exact cmpL_irr a (mv _ _ _ g h)
  .exact .inl h) l
 refine this.imp fun {x y} h=>?_
 simpa[ltOf] using h
def AI(s:AM.St)(f:Bool):Type:={ p:List Int×Value // p.1.length<=1000000/\Rel s (L1 f p.1) p.2 }
instance (s:AM.St) (f:Bool):Inhabited (AI s f):=⟨⟨([],.slice none 0 0),ζ,by
 refine .lst 1 f [] none 0 0 0 (fun _ _=>undef) (uA _) (fun _=>rfl) (fun h=>by simp at h) ζ ζ ζ⟩⟩
def AI.sl{s:AM.St}{f:Bool}{k e z:Nat}{xs:List V}(hk:s.H[k]?=some (.buf e z xs false))(d:s.κ k≠0)(a:AI s f):∃A cap,a.1.2 = .slice A a.1.1.length cap /\
  ∀(i:Nat) (h:i<a.1.1.length),∃b o,A=some ⟨b,o,none⟩/\b≠s.φ k/\b<s.w.heap.size/\s.w.cell? ⟨b,o+i,none⟩=some (.int .i64 a.1.1[i]):=by
 obtain⟨⟨l,u⟩,hl,hr⟩:=a;simp only at hl hr ⊢;simp only[L1]at hr;generalize c:l.map aG=ys at hr
 have g:ys.length=l.length:=by rw[<-c];simp
 cases hr with
 | lst _ _ _ A cap b off n hcap hfull hA hz hcell hrel =>
  refine⟨A,cap,by rw[g],fun i hi=>?_⟩;obtain⟨rfl,m⟩:=hA ω
  have j:ys[i]?=some (aG l[i]):=by rw[<-c];simp[hi]
  refine⟨b,off,rfl,?_,m.1,?_⟩
  .intro he;obtain⟨e',q,p,hb⟩:=m.2.2 k (lvB hk d) he.symm;rw[hk]at hb;cases hb
  .have h1:=hcell i _ 0 _ j rfl;have h2:=hrel i _ 0 _ j rfl;rw[vk,yE]at h1;generalize n i 0=u at h1 h2;cases h2;exact h1
def jo{s:AM.St}{f:Bool}(a:AI s f):Value:=a.1.2
def cfAI{s:AM.St}{f:Bool}(a b:AI s f):Int:=eZ a.1.1 b.1.1
def permIn_map{b c:Type} [Inhabited b] [Inhabited c] (f:b->c){n:Nat}{d a:Array b}(hn:d.size=n)(h:PermIn 0 n d a):PermIn 0 n (d.map f) (a.map f):=by
 obtain⟨h1,h2,e⟩:=h;refine⟨by simp[h1],fun i hi=>?_,?_⟩
 .rw[getElem!_neg _ _ χ,getElem!_neg _ _ χ]
 .have j:(d.map f).extract 0 n=(d.extract 0 n).map f:=by simp
  have g:(a.map f).extract 0 n=(a.extract 0 n).map f:=by simp
  rw[j,g,xS,xS];exact e.map f
def sortedIn_map{b a:Type} [Inhabited b] [Inhabited a] (f:b->a){lt:a->a->Bool}{n:Nat}{d:Array b}(hn:d.size=n)(h:SortedIn (fun x y=>lt (f x) (f y)) 0 n d):SortedIn lt 0 n (d.map f):=fun i j h1 h2 e=>by
 have:=h i j h1 h2 e
 have c:j<d.size:=by omega
 have hi:i<d.size:=by omega
 rw[getElem!_pos d j c,getElem!_pos d i hi]at this;rw[getElem!_pos (d.map f) j (by simpa using c),getElem!_pos (d.map f) i (by simpa using hi),wR,wR];exact this
def layI1:SlLaysF.n6 prog renI:={ layI with a24:=Tryz.isAgg58,z24:=Tryz.sizeOf58 }
def LBi(H:List B)(k e:Nat)(f:Bool)(ls:List (List Int)):List B:=H.set k (.buf e 1 (ls.map (L1 f)) false)
def sortLi_u{H:List B}{k e:Nat}{f:Bool}(ls:List (List Int))(n:Nat)(hn:ls.length=n)(hk:k<H.length)(hl:n<4611686018427387904)(Z:∀l∈ls,l.length<=1000000):
  ak prog 158 [.buf k 0 n n,.fn 159 []] (LBi H k e f ls) fun r H'=>r = .tup []/\H'=LBi H k e f (cF ls):=by
 subst hn
 have q:(LBi H k e f ls)[k]?=some (.buf e 1 (ls.map (L1 f)) false):=by unfold LBi;rw[uJ hk]
 rw[show LBi H k e f (cF ls)=(LBi H k e f ls).set k (.buf e 1 ((cF ls).map (L1 f)) false) by unfold LBi;rw[vq]];generalize LBi H k e f ls=H at q;refine⟨⟨f158,func158,rfl,rfl⟩,fun s vals hA N Q hrel=>?_⟩;obtain⟨rfl,hZ⟩:=hA
 obtain⟨u0,T,rfl⟩:∃u0 T,vals = #[u0,T]:=by
  obtain⟨l⟩:=vals
  match l,Q with
  | [a,b],_=>exact⟨a,b,rfl⟩
 have r0:=hrel 0 _ u0 rfl rfl;have r1:=hrel 1 _ T rfl rfl
 cases r1 with
 | fn _ _ us Y _ =>
 obtain rfl:us = #[]:=wB (by simpa using Y)
 cases r0 with
 | buf _ _ _ _ e2 z2 an ax A n c K ht hh =>
 rw[q]at K;cases K;obtain⟨hA,rfl,hcap,_⟩:=hh ζ;rw[vD]at hcap;by_cases h0:ls=[]
 .subst h0;refine(AnyF.slices_SortFunc_none layI A c _ s.w).mono ?_;rintro e' w' ⟨rfl,rfl⟩;refine⟨_,s,.tup [],rfl,rfl,N,Step.refl s,.tup [] #[] rfl ζ,rfl,?_⟩;rw[show cF []=[] by simp[cF]];apply uw;intro i;rw[xI];split
  .rename_i h;subst h;rw[if_pos (aB q),q]
  .rfl
 .have al:0<ls.length:=List.length_pos_iff.2 h0;obtain⟨vs,M,g3,g4,g5,g6,g7⟩:=N.blk k _ q;rw[ud]at g4
  have g:s.κ k≠0:=by omega
  have hA:=hA g;subst hA;have M:=M g;have P:=(N.lt k (lvB q g)).1
  have O:∀i (h:i<ls.length),∃u,vs[i]?=some u/\Rel s (L1 f ls[i]) u:=fun i h=>by
   obtain⟨u,hu⟩:∃u,vs[i]?=some u:=⟨_,vZ (show i<vs.size by omega)⟩;exact⟨u,hu,g7 i _ 0 _ u (show(ls.map (L1 f))[i]?=some (L1 f ls[i]) by simp[h]) rfl (by simpa using hu)⟩
  obtain⟨d,p,U,S⟩:∃d:Array (AI s f),d.size=ls.length/\d.map (fun a=>a.1.1)=ls.toArray/\∀i,i<ls.length->vs[i]?=some (jo d[i]!):=by
   have hx:∀i:Fin ls.length,∃a:AI s f,a.1.1=ls[i]/\vs[i.1]?=some (jo a):=fun i=>by
    obtain⟨u,hu,hr⟩:=O i.1 i.2;exact⟨⟨(ls[i],u),Z _ (ti _),hr⟩,rfl,hu⟩
   refine⟨Array.ofFn fun i=>Classical.choose (hx i),ζ,?_,fun i hi=>?_⟩
   .apply Array.ext
    .simp
    .intro i h1 h2;simp only[wR,xw];have:=(Classical.choose_spec (hx ⟨i,by simpa using h2⟩)).1;rw[this];simp
   .rw[getElem!_pos _ _ (by simpa using hi),xw];exact(Classical.choose_spec (hx ⟨i,hi⟩)).2
  have F:OneCell (jo (s:=s) (f:=f)):=fun a=>by
   obtain⟨A,cap,h1,_⟩:=AI.sl q g a;unfold jo;rw[h1];rfl
  have W:Holds (jo:AI s f->Value) s.w (s.φ k) (0*1) d:=by
   intro t ht;rw[p]at ht;refine⟨?_,?_⟩
   .simp only[World.cell?,M,vp,vD];simpa using S t ht
   .simp[World.frozen?,M]
  have I:CmpLays1 prog 159 #[] (jo:AI s f->Value) cfAI (s.φ k) (0*1) d.size s.w:=fun m os dk _ x y=>by
   obtain⟨A,ca,a1,a2⟩:=AI.sl q g x;obtain⟨B,cb,b1,b2⟩:=AI.sl q g y
   have J:∀(A:Option Addr) (l:List Int),(∀(i:Nat) (h:i<l.length),∃b o,A=some ⟨b,o,none⟩/\b≠s.φ k/\b<s.w.heap.size/\s.w.cell? ⟨b,o+i,none⟩=some (.int .i64 l[i]))->
     AtI (sortWorld (jo:AI s f->Value) s.w (s.φ k) (0*1) m dk os) A l:=fun A l h i hi=>by
    obtain⟨b,o,h1,h2,h3,h4⟩:=h i hi
    have hc:∀t,(sortWorld (jo:AI s f->Value) s.w (s.φ k) (0*1) m dk os).cell? ⟨b,t,none⟩=s.w.cell? ⟨b,t,none⟩:=fun t=>by
     unfold sortWorld;rw[cell?_grow _ _ _ (by rw[Go.Proofs.size_putRow];exact h3),cell?_putRow_other _ _ _ _ _ _ (.inl h2)];rfl
    refine⟨b,o,h1,?_,by rw[hc];exact h4⟩;unfold sortWorld;rw[size_grow,Go.Proofs.size_putRow];exact uT h3 (xR _ _)
   have:=compareIK x.1.1 y.1.1 A B ca cb (sortWorld (jo:AI s f->Value) s.w (s.φ k) (0*1) m dk os) (J A _ a2) (J B _ b2) x.2.1 y.2.1;rw[<-a1,<-b1]at this;exact this
  have hs:=Any.slices_SortFunc layI1 (jo:AI s f->Value) F cfAI ⟨fun x=>swoI.irrefl x.1.1,fun x y z=>swoI.trans x.1.1 y.1.1 z.1.1,fun x y z=>swoI.ntrans x.1.1 y.1.1 z.1.1⟩ 159 #[] (s.φ k) (0*1) c d s.w
   (fun args w=>rfl) I W P (by rw[p];simpa using hl)
  rw[p]at hs;refine hs.mono ?_;rintro e' w' ⟨rfl,C,n,os,hp,ad,hw⟩;have L:=permIn_map (fun a:AI s f=>a.1.1) p hp
  have D:C.size=ls.length:=by rw[hp.1];exact p
  have G:=sortedIn_map (lt:=ltOf eZ) (fun a:AI s f=>a.1.1) D ad;rw[U]at L;have hu:=sorted_unique_holds swoI totI ls.toArray (C.map fun a=>a.1.1) (by simpa using L) (by simpa using G)
  have R:(cF ls).map (L1 f)=C.toList.map fun a=>L1 f a.1.1:=by
   have:cF ls=(C.map fun a=>a.1.1).toList:=by rw[hu];simp[cF]
   rw[this,xS,xH];rfl
  have X:w'=grow (putRow id (Go.Sort.ahead s.w n) (s.φ k) 0 (C.map jo)) os:=by
   rw[hw,vp];unfold sortWorld;rw[putRow_id]
  rw[R]
  obtain⟨f1,f2⟩:=row_turned (ys:=C.toList.map fun a=>L1 f a.1.1) N q g (C.map jo) n os (by simp[D]) (by simp[D])
   (fun y E=>by obtain⟨c,_,rfl⟩:=List.mem_map.1 E;exact⟨rfl,by simp[L1,V.cells,V.one]⟩) (fun i y j dd E hd=>by
    have v:=aB E;simp only[ud,vV]at v
    have hj:j=0:=by
     rw[uK,vJ,vZ v,uS]at E;cases E;have:=aB hd;simp[L1,V.cells]at this;omega
    subst hj;rw[uK,vJ,vZ v,uS]at E;cases E
    have:dd=L1 f C[i].1.1:=by simpa[L1,V.cells] using hd.symm
    subst this;rw[yE,vk,getElem!_pos _ _ (by simpa using v),wR]
    exact C[i].2.2) w' X
  exact⟨_,_,.tup [],rfl,rfl,f1,f2,.tup [] #[] rfl ζ,rfl,rfl⟩
end
section
open Go Go.AM Go.Proofs.Tryz
section
def oblP(T:AM.Ty)(ops:Array Oper)(C:V->List V->List B->(V->List B->Prop)->Prop)(E:List Nat)(tab:List (Nat×List Nat))(Hs:Nat->List B):List Oper->Nat->Nat->List V->List V->Prop
 | [],_,_,_,_=>True
 | _::_,_,_,_,[]=>False
 | o::rest,i,c,fr,v::vs =>
  (match bU ops fr o with
   | some true=>match bF o.op with
    | some (f,args)=>if E.contains i then C (aO fr f) (args.map (aO fr)) (Hs c) (fun r H'=>r=v/\H'=Hs (c+1))
     else gC (fun c'=>C (aO fr f) (args.map (aO fr)) (Hs c') (fun r H'=>r=v/\H'=Hs c')) (c::kD tab i)
    | none=>if E.contains i||gU o.op then True else gC (fun c'=>aop T o.op (aO fr) (Hs c')=some (v,Hs c')) (if cR o.op then kD tab i else c::kD tab i)
   | _=>True)/\oblP T ops C E tab Hs rest (i+1) (if E.contains i then c+1 else c) (bL fr o.dst v) vs
def DrawP(T:AM.Ty)(ops:Array Oper)(E:List Nat)(tab:List (Nat×List Nat))(cv:List (V×List B))(C:V->List V->List B->(V->List B->Prop)->Prop)(K:List V->List B->Prop)(fr:List V)(H:List B):Prop :=
 match AM.runT T ops E ops.toList 0 fr H cv with
 | none=>False
 | some (vs,hs,f)=>hs.length=E.length/\oblP T ops C E tab (fun c=>(H::hs)[c]?.getD []) ops.toList 0 0 fr vs/\K f ((H::hs)[E.length]?.getD [])
section
variable {P:Program} {T:AM.Ty}
end
attribute [simp] DrawP oblP
end
def relL_le{s:AM.St}{z:Nat}{xs ys:List V}{fl:Bool}{u:Value}(h:Rel s (.lst z fl xs) u)(hl:xs.length=ys.length)(hz:∀y∈ys,y.cells.length=z/\∀c∈y.cells,c.one=true)
  (e:∀(i:Nat) x y,xs[i]?=some x->ys[i]?=some y->∀(j:Nat) c,y.cells[j]?=some c->∃d,x.cells[j]?=some d/\lfB d c):Rel s (.lst z fl ys) u:=by
 cases h with
 | lst _ _ _ A cap b off u hcap hfull hA k hcell hrel =>
  rw[hl];refine .lst z fl ys A cap b off u ω (fun h=>by rw[<-hl];exact hfull h) (fun h=>hA ω) hz (fun i y j c a f=>?_) (fun i y j c a f=>?_)
  .have hx:xs[i]?=some (xs[i]'(by have:=aB a;omega)):=tm _;obtain⟨d,g,_⟩:=e i _ y hx a j c f;exact hcell i _ j d hx g
  .have hx:xs[i]?=some (xs[i]'(by have:=aB a;omega)):=tm _;obtain⟨d,g,h2⟩:=e i _ y hx a j c f;exact ma (hrel i _ j d hx g) h2
def conP_resL{P:Program}{f:FuncId}{args:List V}{K K':V->Prop}(h:aK P f args K)(hk:∀s u r,K r->Rel s r u->∃a,Rel s a u/\AM.Pure a/\K' a):aK P f args K':=by
 refine⟨h.1,fun F w vals c j b hrel=>(h.2 F w vals c j b hrel).mono fun e l ⟨u,r,a1,k,a3,a4,a5⟩=>?_⟩;obtain⟨a,i,d,g⟩:=hk _ u r a5 a3;exact⟨u,a,a1,d,i,a4,g⟩
def LT(g:Bool)(es:List (List Int)):V:=.lst 1 g (es.map (L1 true))
def oe(n e:Nat)(es:List (List Int)):rbB n (.buf e 1 (es.map (L1 true)) false):=(rbB_buf1 (fun x hx=>by obtain⟨y,_,rfl⟩:=List.mem_map.1 hx;exact⟨ζ,rfl⟩)).2 trivial
def qJ(n e:Nat)(es:List (List Int)):rbB n (.buf e 1 (es.map (L1 false)) false):=(rbB_buf1 (fun x hx=>by obtain⟨y,_,rfl⟩:=List.mem_map.1 hx;exact⟨ζ,rfl⟩)).2 trivial
def rel_LT{s:AM.St}{g:Bool}{es:List (List Int)}{u:Value}(h:Rel s (LT g es) u):Rel s (LL g es) u:=by
 refine relL_le h ζ (fun y b=>?_) (fun i x y hx b j c a=>?_)
 .obtain⟨z,_,rfl⟩:=List.mem_map.1 b;refine⟨rfl,fun c a=>?_⟩;simp only[L1,V.cells,tw,tq,or_false]at a;subst a;rfl
 .rw[uK]at hx b
  cases hz:es[i]? with
  | none=>rw[hz]at hx;cases hx
  | some z =>
   rw[hz]at hx b;simp only[uS,Option.some.injEq]at hx b;subst hx;subst b
   match j with
   | 0 =>
    simp[L1,V.cells]at a;subst a;exact⟨_,rfl,.inr (.inl ⟨1,z.map aG,rfl,rfl⟩)⟩
   | j+1=>simp[L1,V.cells]at a
def rel_tup2{s:AM.St}{a c b:V}{u:Value}(h:Rel s (.tup [a,b]) u)(ha:∀x,Rel s a x->Rel s c x):Rel s (.tup [c,b]) u:=by
 cases h with
 | tup _ us hl hr =>
  refine .tup _ us (by simpa using hl) (fun i v x hv hx=>?_)
  match i with
  | 0=>simp at hv;subst hv;exact ha _ (hr 0 a x rfl hx)
  | 1=>simp at hv;subst hv;exact hr 1 _ x rfl hx
  | i+2=>simp at hv
def oQ{P:Program}{f:FuncId}{args:List V}{es:List (List Int)}{e:Int}(h:aK P f args fun r=>r = .tup [LT false es,.int .i64 e]):aK P f args fun r=>r = .tup [LL false es,.int .i64 e] :=
 conP_resL h fun s u r hr hrel=>⟨_,rel_tup2 (hr▸hrel) fun x=>rel_LT,by simp[LL],rfl⟩
end
section
open Go Go.AM Go.RowKit Go.Lib Go.Proofs.Tryz
def oR{f:FuncId}{args:List V}{e z:Nat}(t:AM.Enters prog f)(h:∀(F:Nat->Prop) (w:World) (vals:Array Value),vals.size=args.length->(∀(i:Nat) a u,args[i]?=some a->vals[i]?=some u->Rel (AM.base F w) a u)->
  Calls prog f vals w fun e' n=>∃v,e' = .returned v/\Below w.heap.size w n/\(v = .slice none 0 0\/∃g c cur,v = .slice (some ⟨g,0,none⟩) 0 c/\w.heap.size<=g/\n.heap[g]?=some (.cells cur e (0,0))/\c≠0/\c<=maxLen/\cur.size=c*z)):ia prog f args fun e' y ys=>e'=e/\y=z/\ys=[]:=by
 refine⟨t,fun F w vals A q p hrel=>(h F w vals p hrel).mono fun e' n ⟨v,he,hb,hv⟩=>?_⟩
 rcases hv with hv | ⟨g,c,cur,hv,s,r,hn,hm,hs⟩
 .have d:∀b,F b->b<n.heap.size:=fun b m=>uT (q b m) hb.size
  obtain⟨p1,_⟩:=nQ (AM.base_good d) (w:=n) 0 e z false rfl rfl rfl (uA _) (fun _ _=>rfl);refine⟨v,e,z,[],none,0,0,he,hv,fun h=>absurd rfl h,ζ,fun h=>absurd rfl h,?_,hb,rfl,rfl,rfl⟩;refine⟨d,fun k hk=>absurd (hk.2 e z [] false (by have:=hk.1;simp at this;subst this;rfl)) ζ,fun j k o hk _=>by have:=o.1;have:=hk.1;simp at *;omega,fun k bl hk=>?_⟩
  have l:k=0:=by have:=aB hk;simp at this;omega
  subst l;simp at hk;subst hk;exact⟨#[],fun h=>absurd rfl h,ζ,ζ,by simp[maxLen],(fun x hx=>by cases hx),(fun i x j c u hx=>by simp at hx)⟩
 .have d:∀b,F b->b<n.heap.size:=fun b m=>uT (q b m) hb.size
  refine⟨v,e,z,[],some ⟨g,0,none⟩,g,c,he,hv,fun _=>rfl,ζ,fun _=>s,?_,hb,rfl,rfl,rfl⟩;refine⟨d,fun k hk=>⟨(Array.getElem?_eq_some_iff.1 r).1,fun hf=>by have:=q g hf;omega⟩,fun j k o hk _=>by have:=o.1;have:=hk.1;simp at *;omega,fun k bl hk=>?_⟩
  have l:k=0:=by have:=aB hk;simp at this;omega
  subst l;simp at hk;subst hk;exact⟨cur,fun _=>r,by simpa using hs,ζ,hm,(fun x hx=>by cases hx),(fun i x j c u hx=>by simp at hx)⟩
def infoG_Z:(prog.info? 2).map (fun i=>(i.zero,i.size,i.bytes))=some (some (.int .i64 0),1,8):=by kernel_rfl
def growPos_Z(n:Nat)(w:World)(h0:0<n)(hn:n<=1000000):Calls prog 217 #[.slice none 0 0,.int .i64 n] w fun e o =>
   e = .returned (.slice (some ⟨w.heap.size,0,none⟩) 0 (grownCap w n 0 2))/\o=w.drew.alloc (.cells (Builtin.zeroCells (.int .i64 0:Value).cells n++Builtin.zeroCells (.int .i64 0:Value).cells (grownCap w n 0 2-n)) 2):=by
 obtain⟨f,d,k,i,c⟩:=info_parts infoG_Z
 have h1:¬((n:Int)<0):=by omega
 have m:∀w,(Go.sizeOf 2).run prog w = .ok 1 w:=fun w=>by simp[Go.sizeOf,typeInfo,d,i]
 have hold:(Builtin.firstCells f.size 0 (.slice none 0 0)).run prog w.drew = .ok ([]:List Value).toArray w.drew:=run_firstCells_none w.drew f.size 0 0 0
 have a:(0+n)*f.bytes<=140737488355328:=by rw[c];omega
 have b:∀ty,(Builtin.append_ #[58,3] ty #[.slice none 0 0,.int .i64 (n:Int)]).run prog w =
   .ok (.slice (some ⟨w.heap.size,0,none⟩) n (grownCap w n 0 2)) (w.drew.alloc (.cells (Builtin.zeroCells (.int .i64 0:Value).cells n++Builtin.zeroCells (.int .i64 0:Value).cells (grownCap w n 0 2-n)) 2)):=fun ty=>by
  have h:=Lib.run_append_grow_zeros (P:=prog) w 58 3 ty 2 f _ .i64 .i64 Tryz.underlying58 Tryz.underlying3 d k none 0 0 [] hold n h0 ω ω ω
   (by rw[c];omega)
   (growslice_fits ω a)
  simpa using h
 have j:n<=grownCap w n 0 2:=grownCap_ge w _ _ _;obtain⟨G,g⟩:=ξ (grownCap w n 0 2);rw[<-g]at b j ⊢
 have l:G<=9223372036854775807:=by
  have:=grownCap_le_maxLen w n 0 2 (by unfold maxLen;omega);rw[<-g]at this;unfold maxLen at this;omega
 have h2:RowKit.wrap64 ((0:Int)-0)=0:=by unfold RowKit.wrap64;omega
 have p:RowKit.wrap64 ((n:Int)-0)=(n:Int):=by unfold RowKit.wrap64;omega
 have q:(n:Int)> 0:=by omega
 clear hold g a
 go_enter func217,ntmps217
 go_wp2_with (at_builtin;refine Lib.wpList_append_run _ rfl _ _ _ _ rfl _ _ rfl rfl _ _ (b _) ?_)
 all_goals (go_ret;exact⟨rfl,rfl⟩)
def growNil_Z(w:World):Calls prog 217 #[.slice none 0 0,.int .i64 0] w fun e a=>e = .returned (.slice none 0 0)/\a=w:=by
 go_enter func217,ntmps217
 go_wp2
 go_ret
 exact⟨rfl,rfl⟩
def sL(n:Nat)(hn:n<=1000000):ia prog 217 [.nilS,.int .i64 n] fun e z ys=>e=2/\z=1/\ys=[]:=by
 refine oR ⟨f217,func217,rfl,rfl⟩ (fun F w vals d hrel=>?_)
 obtain⟨u0,c,rfl⟩:∃u0 c,vals = #[u0,c]:=by
  obtain⟨l⟩:=vals
  match l,d with
  | [a,b],_=>exact⟨a,b,rfl⟩
 have r0:=hrel 0 _ u0 rfl rfl;have r1:=hrel 1 _ c rfl rfl;cases r0;cases r1;by_cases h0:n=0
 .subst h0
  exact(growNil_Z w).mono fun e g ⟨h1,h2⟩=>⟨_,h1,by subst h2;exact Below.refl _ _,.inl rfl⟩
 .refine(growPos_Z n w ω hn).mono fun e g ⟨h1,h2⟩=>?_
  subst h2;have f:=grownCap_ge w n 0 2;refine⟨_,h1,((Below.refl _ _).drew).alloc (uA _) _,.inr ⟨w.heap.size,grownCap w n 0 2,Builtin.zeroCells (.int .i64 0:Value).cells n++Builtin.zeroCells (.int .i64 0:Value).cells (grownCap w n 0 2-n),rfl,uA _,?_,ω,grownCap_le_maxLen w n 0 2 (by unfold maxLen;omega),?_⟩⟩
  .exact xL (xs:=w.heap)
  .rw[wg,size_zeroCells,size_zeroCells,<-uR,xM f];rfl
def grow_nil_Z:aK prog 217 [.nilS,.int .i64 0] fun r=>r = .nilS:=by
 refine⟨⟨f217,func217,rfl,rfl⟩,fun F w vals g h d hrel=>?_⟩
 obtain⟨u0,c,rfl⟩:∃u0 c,vals = #[u0,c]:=by
  obtain⟨l⟩:=vals
  match l,d with
  | [a,b],_=>exact⟨a,b,rfl⟩
 have r0:=hrel 0 _ u0 rfl rfl;have r1:=hrel 1 _ c rfl rfl;cases r0;cases r1
 refine(growNil_Z w).mono fun e f ⟨h1,h2⟩=>⟨_,_,h1,.nilS,.nilS,by subst h2;exact Below.refl _ _,rfl⟩
end
section
open Go Go.AM Go.Proofs.Tryz
def rY{s:AM.St}{z:Nat}{xs ys:List V}{fl:Bool}{u:Value}(h:Rel s (.lst z fl xs) u)(hl:xs.length=ys.length)(hz:∀y∈ys,y.cells.length=z/\∀c∈y.cells,c.one=true)
  (e:∀(i:Nat) x y,xs[i]?=some x->ys[i]?=some y->∀(j:Nat) c,y.cells[j]?=some c->∃d,x.cells[j]?=some d/\lfB d c):Rel s (.lst z fl ys) u:=by
 cases h with
 | lst _ _ _ A cap b off u hcap hfull hA k hcell hrel =>
  rw[hl];refine .lst z fl ys A cap b off u ω (fun h=>by rw[<-hl];exact hfull h) (fun h=>hA ω) hz (fun i y j c a f=>?_) (fun i y j c a f=>?_)
  .have hx:xs[i]?=some (xs[i]'(by have:=aB a;omega)):=tm _;obtain⟨d,g,_⟩:=e i _ y hx a j c f;exact hcell i _ j d hx g
  .have hx:xs[i]?=some (xs[i]'(by have:=aB a;omega)):=tm _;obtain⟨d,g,h2⟩:=e i _ y hx a j c f;exact ma (hrel i _ j d hx g) h2
def iz{P:Program}{f:FuncId}{args:List V}{K K':V->Prop}(h:aK P f args K)(hk:∀s u r,K r->Rel s r u->∃a,Rel s a u/\AM.Pure a/\K' a):aK P f args K':=by
 refine⟨h.1,fun F w vals c j b hrel=>(h.2 F w vals c j b hrel).mono fun e l ⟨u,r,a1,k,a3,a4,a5⟩=>?_⟩;obtain⟨a,i,d,g⟩:=hk _ u r a5 a3;exact⟨u,a,a1,d,i,a4,g⟩
end
end Go.Proofs.YtnaokiodhoadjaaGreatDoor
section

end
namespace Go.Proofs.YtnaokiodhoadjaaGreatDoor
section
open Go Go.AM Go.RowKit Go.Lib Go.Proofs.Tryz
def infoG_C:(prog.info? 101).map (fun i=>(i.zero,i.size,i.bytes))=some (some (.agg #[.int .i64 0,.int .i64 0]),2,16):=by kernel_rfl
def growPos_C(n:Nat)(w:World)(h0:0<n)(hn:n<=1000000):Calls prog 112 #[.slice none 0 0,.int .i64 n] w fun e o =>
   e = .returned (.slice (some ⟨w.heap.size,0,none⟩) 0 (grownCap w n 0 101))/\o=w.drew.alloc (.cells (Builtin.zeroCells (.agg #[.int .i64 0,.int .i64 0]:Value).cells n++Builtin.zeroCells (.agg #[.int .i64 0,.int .i64 0]:Value).cells (grownCap w n 0 101-n)) 101):=by
 obtain⟨f,d,k,i,c⟩:=info_parts infoG_C
 have h1:¬((n:Int)<0):=by omega
 have m:∀w,(Go.sizeOf 101).run prog w = .ok 2 w:=fun w=>by simp[Go.sizeOf,typeInfo,d,i]
 have hold:(Builtin.firstCells f.size 0 (.slice none 0 0)).run prog w.drew = .ok ([]:List Value).toArray w.drew:=run_firstCells_none w.drew f.size 0 0 0
 have a:(0+n)*f.bytes<=140737488355328:=by rw[c];omega
 have b:∀ty,(Builtin.append_ #[85,3] ty #[.slice none 0 0,.int .i64 (n:Int)]).run prog w =
   .ok (.slice (some ⟨w.heap.size,0,none⟩) n (grownCap w n 0 101)) (w.drew.alloc (.cells (Builtin.zeroCells (.agg #[.int .i64 0,.int .i64 0]:Value).cells n++Builtin.zeroCells (.agg #[.int .i64 0,.int .i64 0]:Value).cells (grownCap w n 0 101-n)) 101)):=fun ty=>by
  have h:=Lib.run_append_grow_zeros (P:=prog) w 85 3 ty 101 f _ .i64 .i64 Tryz.underlying85 Tryz.underlying3 d k none 0 0 [] hold n h0 ω ω ω
   (by rw[c];omega)
   (growslice_fits ω a)
  simpa using h
 have j:n<=grownCap w n 0 101:=grownCap_ge w _ _ _;obtain⟨G,g⟩:=ξ (grownCap w n 0 101);rw[<-g]at b j ⊢
 have l:G<=9223372036854775807:=by
  have:=grownCap_le_maxLen w n 0 101 (by unfold maxLen;omega);rw[<-g]at this;unfold maxLen at this;omega
 have h2:RowKit.wrap64 ((0:Int)-0)=0:=by unfold RowKit.wrap64;omega
 have p:RowKit.wrap64 ((n:Int)-0)=(n:Int):=by unfold RowKit.wrap64;omega
 have q:(n:Int)> 0:=by omega
 clear hold g a
 go_enter func112,ntmps112
 go_wp2_with (at_builtin;refine Lib.wpList_append_run _ rfl _ _ _ _ rfl _ _ rfl rfl _ _ (b _) ?_)
 all_goals (go_ret;exact⟨rfl,rfl⟩)
def growNil_C(w:World):Calls prog 112 #[.slice none 0 0,.int .i64 0] w fun e a=>e = .returned (.slice none 0 0)/\a=w:=by
 go_enter func112,ntmps112
 go_wp2
 go_ret
 exact⟨rfl,rfl⟩
def me(n:Nat)(hn:n<=1000000):ia prog 112 [.nilS,.int .i64 n] fun e z ys=>e=101/\z=2/\ys=[]:=by
 refine oR ⟨f112,func112,rfl,rfl⟩ (fun F w vals d hrel=>?_)
 obtain⟨u0,c,rfl⟩:∃u0 c,vals = #[u0,c]:=by
  obtain⟨l⟩:=vals
  match l,d with
  | [a,b],_=>exact⟨a,b,rfl⟩
 have r0:=hrel 0 _ u0 rfl rfl;have r1:=hrel 1 _ c rfl rfl;cases r0;cases r1;by_cases h0:n=0
 .subst h0
  exact(growNil_C w).mono fun e g ⟨h1,h2⟩=>⟨_,h1,by subst h2;exact Below.refl _ _,.inl rfl⟩
 .refine(growPos_C n w ω hn).mono fun e g ⟨h1,h2⟩=>?_
  subst h2;have f:=grownCap_ge w n 0 101;refine⟨_,h1,((Below.refl _ _).drew).alloc (uA _) _,.inr ⟨w.heap.size,grownCap w n 0 101,Builtin.zeroCells (.agg #[.int .i64 0,.int .i64 0]:Value).cells n++Builtin.zeroCells (.agg #[.int .i64 0,.int .i64 0]:Value).cells (grownCap w n 0 101-n),rfl,uA _,?_,ω,grownCap_le_maxLen w n 0 101 (by unfold maxLen;omega),?_⟩⟩
  .exact xL (xs:=w.heap)
  .rw[wg,size_zeroCells,size_zeroCells,<-uR,xM f];rfl
def grow_nil_C:aK prog 112 [.nilS,.int .i64 0] fun r=>r = .nilS:=by
 refine⟨⟨f112,func112,rfl,rfl⟩,fun F w vals g h d hrel=>?_⟩
 obtain⟨u0,c,rfl⟩:∃u0 c,vals = #[u0,c]:=by
  obtain⟨l⟩:=vals
  match l,d with
  | [a,b],_=>exact⟨a,b,rfl⟩
 have r0:=hrel 0 _ u0 rfl rfl;have r1:=hrel 1 _ c rfl rfl;cases r0;cases r1
 refine(growNil_C w).mono fun e f ⟨h1,h2⟩=>⟨_,_,h1,.nilS,.nilS,by subst h2;exact Below.refl _ _,rfl⟩
end
end Go.Proofs.YtnaokiodhoadjaaGreatDoor
section

end
