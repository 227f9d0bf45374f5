/- JB41: texts LayC, Lo, Dn, Mp, LayL, GrG, C5, C4a, joined and shortened by pack6.py. -/
import Derived.Test.YtnaokiodhoadjaaGreatDoorJB28
import Derived.Shelf.SlSortCmp.NoneTotal
import Derived.WalkKit
import Derived.Lib.Walk
import Derived.Lib.SliceRun
import Derived.Lib.AppendZerosOnto
import Derived.OwnWalk
set_option linter.all false
set_option maxRecDepth 100000
set_option maxHeartbeats 64000000
namespace Go.Proofs.YtnaokiodhoadjaaGreatDoor
section
open Go Go.Shelf Go.AM Go.Proofs.Tryz
def renC:Go.Shelf.Ren:=⟨fun n=>match n with
  | 6=>68
  | 14=>113
  | 15=>79
  | 20=>171
  | 21=>172
  | 22=>173
  | 23=>174
  | 24=>175
  | 25=>176
  | 26=>177
  | 27=>178
  | 28=>127
  | 29=>128
  | 46=>232
  | 47=>183
  | 48=>184
  | 49=>233
  | 50=>234
  | 57=>268
  | n=>n,fun n=>match n with
  | 0=>0
  | 3=>3
  | 4=>4
  | 5=>5
  | 9=>9
  | 22=>85
  | 24=>101
  | 25=>161
  | 39=>179
  | 45=>220
  | 46=>221
  | 50=>96
  | 53=>37
  | 55=>228
  | 66=>274
  | 70=>278
  | 76=>318
  | 77=>319
  | n=>n,fun n=>n⟩
def layC:Go.Proofs.SlLaysF0.n6 prog renC:={
 mixed:=by kernel_rfl
 f6:=⟨f68.name,by decide,func68.trans (congrArg some υ)⟩
 f14:=⟨f113.name,by decide,func113.trans (congrArg some υ)⟩
 f15:=func79.trans (congrArg some υ)
 f20:=⟨f171.name,by decide,func171.trans (congrArg some υ)⟩
 f21:=⟨f172.name,by decide,func172.trans (congrArg some υ)⟩
 f22:=⟨f173.name,by decide,func173.trans (congrArg some υ)⟩
 f23:=⟨f174.name,by decide,func174.trans (congrArg some υ)⟩
 f24:=⟨f175.name,by decide,func175.trans (congrArg some υ)⟩
 f25:=⟨f176.name,by decide,func176.trans (congrArg some υ)⟩
 f26:=⟨f177.name,by decide,func177.trans (congrArg some υ)⟩
 f27:=⟨f178.name,by decide,func178.trans (congrArg some υ)⟩
 f28:=func127.trans (congrArg some υ)
 f29:=func128.trans (congrArg some υ)
 f46:=⟨f232.name,by decide,func232.trans (congrArg some υ)⟩
 f47:=func183.trans (congrArg some υ)
 f48:=func184.trans (congrArg some υ)
 f49:=⟨f233.name,by decide,func233.trans (congrArg some υ)⟩
 f50:=⟨f234.name,by decide,func234.trans (congrArg some υ)⟩
 f57:=⟨f268.name,by decide,func268.trans (congrArg some υ)⟩
 t0:=Tryz.underlying0
 a0:=Tryz.isAgg0
 z0:=Tryz.sizeOf0
 v0:=Tryz.zeroValue0
 t3:=Tryz.underlying3
 a3:=Tryz.isAgg3
 z3:=Tryz.sizeOf3
 v3:=Tryz.zeroValue3
 t4:=Tryz.underlying4
 a4:=Tryz.isAgg4
 z4:=Tryz.sizeOf4
 v4:=Tryz.zeroValue4
 t5:=Tryz.underlying5
 a5:=Tryz.isAgg5
 z5:=Tryz.sizeOf5
 v5:=Tryz.zeroValue5
 t9:=Tryz.underlying9
 a9:=Tryz.isAgg9
 z9:=Tryz.sizeOf9
 v9:=Tryz.zeroValue9
 t22:=Tryz.underlying85
 a22:=Tryz.isAgg85
 z22:=Tryz.sizeOf85
 v22:=Tryz.zeroValue85
 t25:=Tryz.underlying161
 a25:=Tryz.isAgg161
 z25:=Tryz.sizeOf161
 v25:=Tryz.zeroValue161
 t39:=Tryz.underlying179
 a39:=Tryz.isAgg179
 z39:=Tryz.sizeOf179
 v39:=Tryz.zeroValue179
 t45:=Tryz.underlying220
 a45:=Tryz.isAgg220
 z45:=Tryz.sizeOf220
 v45:=Tryz.zeroValue220
 t46:=Tryz.underlying221
 a46:=Tryz.isAgg221
 z46:=Tryz.sizeOf221
 v46:=Tryz.zeroValue221
 t50:=Tryz.underlying96
 a50:=Tryz.isAgg96
 z50:=Tryz.sizeOf96
 v50:=Tryz.zeroValue96
 t53:=Tryz.underlying37
 a53:=Tryz.isAgg37
 z53:=Tryz.sizeOf37
 v53:=Tryz.zeroValue37
 t55:=Tryz.underlying228
 a55:=Tryz.isAgg228
 z55:=Tryz.sizeOf228
 v55:=Tryz.zeroValue228
 t66:=Tryz.underlying274
 a66:=Tryz.isAgg274
 z66:=Tryz.sizeOf274
 v66:=Tryz.zeroValue274
 t70:=Tryz.underlying278
 a70:=Tryz.isAgg278
 z70:=Tryz.sizeOf278
 v70:=Tryz.zeroValue278
 t76:=Tryz.underlying318
 a76:=Tryz.isAgg318
 z76:=Tryz.sizeOf318
 v76:=Tryz.zeroValue318
 t77:=Tryz.underlying319
 a77:=Tryz.isAgg319
 z77:=Tryz.sizeOf319
 v77:=Tryz.zeroValue319 }
end
section
open Go Go.AM Go.Proofs.Tryz
def Scalar.cells'{x:V}(h:Scalar x):∀c∈x.cells,Scalar c:=by
 cases h with
 | agg cs h=>exact h
 | _=>intro c a;simp[V.cells]at a;subst a;constructor<;>assumption
def conH_of_conOL{P:Program}{f:FuncId}{args g:List V}{K:Nat->Nat->List V->Prop}{H:List B}(h:ia P f g K)(hl:args.length=g.length)(he:∀(i:Nat) a q,args[i]?=some a->g[i]?=some q->Exp H a q)
  (hs:∀e z xs,K e z xs->∀x∈xs,Scalar x):
  ak P f args H fun r H'=>∃e z xs,r = .buf H.length 0 xs.length xs.length/\H'=H++[.buf e z xs false]/\(∀x∈xs,AM.Pure x)/\K e z xs:=by
 refine⟨h.1,fun s vals U n M hrel=>?_⟩;obtain⟨rfl,S⟩:=U
 have F:∀b,hold s (fun _=>True) b->b<s.w.heap.size:=by
  rintro b (h | ⟨k,hk,rfl,_⟩)
  .exact n.fl b h
  .exact(n.lt k hk).1
 refine(h.2 (hold s fun _=>True) s.w vals (S.hold _) F ω (fun i q u p hu=>?_)).mono fun e v ⟨u,e',z,xs,A,C,c,a1,R,L,a3,a4,a5,l,y⟩=>?_
 .have hi:i<args.length:=by have:=aB p;omega
  have ha:args[i]?=some args[i]:=tm hi;exact(hrel i _ u ha hu).exp n (he i _ q ha p) (fun _ _ _ _ _=>trivial)
 .subst R;by_cases m:c=0
  .subst m;obtain⟨_,_,_,D,_⟩:=a5.blk 0 _ rfl;obtain rfl:xs=[]:=vL (by simpa using D);obtain⟨p1,J⟩:=nQ n 0 e' z false l.os l.tape l.output l.size l.block;refine⟨_,s.push v 0 0 (.buf e' z [] false),.buf s.H.length 0 0 0,a1,rfl,p1,J,?_,e',z,[],rfl,rfl,a3,y⟩;refine .buf s.H.length 0 0 0 e' z [] false _ _ _ (by simp[St.push]) (uA _) (fun _=>?_);simp only[St.push,aR];exact⟨fun h=>absurd rfl h,ζ,ζ,ζ⟩
  have a4:=a4 m;have hA:=L m;subst hA;have E:C<v.heap.size:=(a5.lt 0 (lvB (e:=e') (z:=z) (xs:=xs) (fz:=false) rfl m)).1;have o:=ep (bl:=.buf e' z xs false) (c:=c) n l.os l.tape l.output l.size l.block a4;refine⟨_,s.push v C c (.buf e' z xs false),.buf s.H.length 0 xs.length xs.length,a1,rfl,gD n l.os l.tape l.output l.size l.block a4 E (fun o=>?_),o,?_,e',z,xs,rfl,rfl,a3,y⟩
  .obtain⟨vs,O,I,D,N,T,Q⟩:=a5.blk 0 _ rfl;exact⟨vs,fun _=>by simp only[St.push,aR];exact O m,by simp only[St.push,aR];exact I,by simp only[St.push,aR];exact D,by simp only[St.push,aR];exact N,T,fun i x j d u hx G hu=>(Q i x j d u hx G hu).scalar (t:=s.push v C c (.buf e' z xs false)) (Scalar.cells' (hs _ _ _ y x (tn hx)) d (tn G))⟩
  .refine .buf s.H.length 0 xs.length xs.length e' z xs false _ _ _ (by simp[St.push]) (uA _) (fun _=>?_);simp only[St.push,aR];exact⟨fun _=>by simp,trivial,ζ,ζ⟩
inductive ExpN (H:List B) (n:Nat):V->V->Prop
 | pure (v:V) (h:AM.Pure v):ExpN H n v v
 | buf (k off len e z:Nat) (xs:List V) (fz:Bool) (hn:n<=k) (hk:H[k]?=some (.buf e z xs fz)) (hl:off+len<=xs.length) (hp:∀x∈xs,AM.Pure x):ExpN H n (.buf k off len xs.length) (.lst z false ((xs.drop off).take len))
 | agg (cs ds:List V) (hl:cs.length=ds.length) (h:∀(i:Nat) c d,cs[i]?=some c->ds[i]?=some d->ExpN H n c d):ExpN H n (.agg cs) (.agg ds)
 | tup (cs ds:List V) (hl:cs.length=ds.length) (h:∀(i:Nat) c d,cs[i]?=some c->ds[i]?=some d->ExpN H n c d):ExpN H n (.tup cs) (.tup ds)
def ExpN.ex{H:List B}{n:Nat}{v v':V}(h:ExpN H n v v'):∃d0,∀d,d0<=d->exV H n d v=some v':=by
 induction h with
 | pure v h=>exact oF h
 | buf k off len e z xs fz hn hk hl hp =>
  obtain⟨d0,h0⟩:=gj (f:=exV H n) (xs:=(xs.drop off).take len) (fun v hv=>oF (hp v (vF (uh hv))));refine⟨d0+1,fun d b=>?_⟩;obtain⟨m,rfl⟩:∃m,d=m+1:=⟨d-1,ω⟩;simp only[exV];rw[if_neg ω,hk];simp only;rw[if_pos ⟨by first | trivial | rfl,hl⟩,h0 m ω]
 | agg cs ds hl _ a =>
  obtain⟨d0,h0⟩:=pR (f:=exV H n) hl a;exact⟨d0+1,fun d b=>by obtain⟨m,rfl⟩:∃m,d=m+1:=⟨d-1,ω⟩;simp only[exV,h0 m ω]⟩
 | tup cs ds hl _ a =>
  obtain⟨d0,h0⟩:=pR (f:=exV H n) hl a;exact⟨d0+1,fun d b=>by obtain⟨m,rfl⟩:∃m,d=m+1:=⟨d-1,ω⟩;simp only[exV,h0 m ω]⟩
def se{H:List B}{n:Nat}{a b c d:V}(h1:ExpN H n a c)(h2:ExpN H n b d):∀(i:Nat) x y,[a,b][i]?=some x->[c,d][i]?=some y->ExpN H n x y:=fun i x y hx e=>by
 match i with
 | 0=>simp at hx e;subst hx;subst e;exact h1
 | 1=>simp at hx e;subst hx;subst e;exact h2
 | i+2=>simp at hx
def oD{H:List B}{n k len tot e z:Nat}{xs:List V}{fz:Bool}(hn:n<=k)(hk:H[k]?=some (.buf e z xs fz))(ht:tot=xs.length)(hl:len<=tot)(hp:∀x∈xs,AM.Pure x):ExpN H n (.buf k 0 len tot) (.lst z false (xs.take len)):=by
 subst ht;have:=ExpN.buf k 0 len e z xs fz hn hk ω hp
 rwa [uG]at this
def tC{P:Program}{f:FuncId}{args:List V}{H:List B}{K:V->Prop}(h:ak P f args H fun x y=>∃G a,y=H++G/\ExpN y H.length x a/\AM.Pure a/\K a):ak P f args H fun x y=>K x/\AM.Pure x/\y=H:=by
 refine⟨h.1,fun s vals hA i g hrel=>?_⟩;have j:=hA.1
 refine(h.2 s vals hA i g hrel).mono fun e n ⟨u,s',x,a1,k,a3,a4,a5,G,a,b,m,a9,c⟩=>?_
 have d:∀bl∈H,ClB H.length bl:=by have:=i.cl;rw[j]at this;exact this
 refine⟨u,s'.cut H,a,a1,k,cut_good2 a3 b d,?_,?_,c,a9,rfl⟩
 .exact oN a3 b (Step.refl (s'.cut H)) s a4 (by rw[j];exact uA _)
 .obtain⟨d0,l⟩:=m.ex;exact ex_rel a3 b d0 x a u a5 (l d0 (uA _))
def conP_of_dropN{P:Program}{f:FuncId}{args:List V}{K:V->Prop}(h:ak P f args [] fun x y=>K x/\AM.Pure x/\y=[]):aK P f args K :=
 bM (h.mono fun r H' ⟨h1,h2,a⟩=>⟨r,.pure r h2,h2,h1⟩)
def mF(enc:Int->V)(us:List Int):List (V×V):=us.map fun x=>(V.int .i64 x,enc x)
theorem mF_nil(enc:Int->V):mF enc []=[]:=rfl
def mF_snoc(enc:Int->V)(us:List Int)(x:Int):mF enc (us++[x])=mF enc us++[(V.int .i64 x,enc x)]:=by simp[mF]
theorem sV(enc:Int->V)(x u:Int)(us:List Int)(i:Nat):cd (.int .i64 x) (mF enc (u::us)) i=if(x == u)=true then some (i,enc u) else cd (.int .i64 x) (mF enc us) (i+1):=rfl
theorem ny{enc:Int->V}{x:Int} : ∀{us:List Int} {i:Nat},cY us x=false->cd (.int .i64 x) (mF enc us) i=none
 | [],_,_=>rfl
 | u::us,i,h=>by
  rw[pD,Bool.or_eq_false_iff]at h;rw[sV,h.1,if_neg ζ];exact ny h.2
theorem iu{enc:Int->V}{x:Int} : ∀{us:List Int} {i:Nat},cY us x=true->∃j,cd (.int .i64 x) (mF enc us) i=some (i+j,enc x)/\us[j]?=some x
 | [],_,h=>by simp[cY]at h
 | u::us,i,h=>by
  rw[sV];cases hq:x == u
  .rw[pD,hq,vP]at h;obtain⟨j,h1,h2⟩:=iu (enc:=enc) (i:=i+1) h;exact⟨j+1,by rw[if_neg ζ];rw[(ω:i+(j+1)=i+1+j)];exact h1,by simpa using h2⟩
  .exact⟨0,by simp[beq_iff_eq.1 hq],by simp[beq_iff_eq.1 hq]⟩
def set_mF{enc:Int->V}{us:List Int}{x:Int}{j:Nat}(h:us[j]?=some x):(mF enc us).set j (V.int .i64 x,enc x)=mF enc us:=by
 unfold mF;apply uw;intro k;by_cases hk:j=k
 .subst hk;have hl:=aB h;rw[uJ (by simpa using hl),uK,h];rfl
 .rw[uH hk]
def rbB_mF{enc:Int->V}(he:∀n x,rb n (enc x))(n:Nat)(kk:KK)(us:List Int):rbB n (.map kk (mF enc us))↔True:=by
 refine⟨fun _=>trivial,fun _ p hp=>?_⟩;obtain⟨x,_,rfl⟩:=List.mem_map.1 hp;exact⟨trivial,he n x⟩
def addK(us:List Int)(k:Int):List Int:=if cY us k=true then us else us++[k]
def addK_yes{us:List Int}{k:Int}(h:cY us k=true):addK us k=us:=by unfold addK;rw[if_pos h]
def addK_no{us:List Int}{k:Int}(h:cY us k=false):addK us k=us++[k]:=by unfold addK;rw[if_neg (by rw[h];simp)]
def addK_mem{us:List Int}{k x:Int} : x∈addK us k↔x∈us\/x=k:=by
 cases h:cY us k with
 | true =>
  rw[addK_yes h];exact⟨.inl,fun g=>g.elim id fun e=>by rw[e];exact bP.1 h⟩
 | false=>rw[addK_no h];simp
def gL{P:Program}{f:FuncId}{args:List V}{H:List B}{K K':V->List B->Prop}(h:ak P f args H K)(hk:∀r H',K r H'->K' r H'):aM P (.fn f []) args H K':=by
 simp only[aM,uC];exact h.mono hk
end
section
open Go Go.Shelf Go.AM Go.Proofs.Tryz
def renL:Go.Shelf.Ren:=⟨fun n=>match n with
  | 6=>40
  | 14=>78
  | 15=>79
  | 20=>119
  | 21=>120
  | 22=>121
  | 23=>122
  | 24=>123
  | 25=>124
  | 26=>125
  | 27=>126
  | 28=>127
  | 29=>128
  | 46=>182
  | 47=>183
  | 48=>184
  | 49=>185
  | 50=>186
  | 57=>236
  | n=>n,fun n=>match n with
  | 0=>0
  | 3=>3
  | 4=>4
  | 5=>5
  | 9=>9
  | 22=>86
  | 24=>85
  | 25=>128
  | 39=>179
  | 45=>220
  | 46=>221
  | 50=>96
  | 53=>37
  | 55=>228
  | 66=>274
  | 70=>278
  | 76=>318
  | 77=>319
  | n=>n,fun n=>n⟩
def layL:Go.Proofs.SlLaysF0.n6 prog renL:={
 mixed:=by kernel_rfl
 f6:=⟨f40.name,by decide,func40.trans (congrArg some υ)⟩
 f14:=⟨f78.name,by decide,func78.trans (congrArg some υ)⟩
 f15:=func79.trans (congrArg some υ)
 f20:=⟨f119.name,by decide,func119.trans (congrArg some υ)⟩
 f21:=⟨f120.name,by decide,func120.trans (congrArg some υ)⟩
 f22:=⟨f121.name,by decide,func121.trans (congrArg some υ)⟩
 f23:=⟨f122.name,by decide,func122.trans (congrArg some υ)⟩
 f24:=⟨f123.name,by decide,func123.trans (congrArg some υ)⟩
 f25:=⟨f124.name,by decide,func124.trans (congrArg some υ)⟩
 f26:=⟨f125.name,by decide,func125.trans (congrArg some υ)⟩
 f27:=⟨f126.name,by decide,func126.trans (congrArg some υ)⟩
 f28:=func127.trans (congrArg some υ)
 f29:=func128.trans (congrArg some υ)
 f46:=⟨f182.name,by decide,func182.trans (congrArg some υ)⟩
 f47:=func183.trans (congrArg some υ)
 f48:=func184.trans (congrArg some υ)
 f49:=⟨f185.name,by decide,func185.trans (congrArg some υ)⟩
 f50:=⟨f186.name,by decide,func186.trans (congrArg some υ)⟩
 f57:=⟨f236.name,by decide,func236.trans (congrArg some υ)⟩
 t0:=Tryz.underlying0
 a0:=Tryz.isAgg0
 z0:=Tryz.sizeOf0
 v0:=Tryz.zeroValue0
 t3:=Tryz.underlying3
 a3:=Tryz.isAgg3
 z3:=Tryz.sizeOf3
 v3:=Tryz.zeroValue3
 t4:=Tryz.underlying4
 a4:=Tryz.isAgg4
 z4:=Tryz.sizeOf4
 v4:=Tryz.zeroValue4
 t5:=Tryz.underlying5
 a5:=Tryz.isAgg5
 z5:=Tryz.sizeOf5
 v5:=Tryz.zeroValue5
 t9:=Tryz.underlying9
 a9:=Tryz.isAgg9
 z9:=Tryz.sizeOf9
 v9:=Tryz.zeroValue9
 t22:=Tryz.underlying86
 a22:=Tryz.isAgg86
 z22:=Tryz.sizeOf86
 v22:=Tryz.zeroValue86
 t25:=Tryz.underlying128
 a25:=Tryz.isAgg128
 z25:=Tryz.sizeOf128
 v25:=Tryz.zeroValue128
 t39:=Tryz.underlying179
 a39:=Tryz.isAgg179
 z39:=Tryz.sizeOf179
 v39:=Tryz.zeroValue179
 t45:=Tryz.underlying220
 a45:=Tryz.isAgg220
 z45:=Tryz.sizeOf220
 v45:=Tryz.zeroValue220
 t46:=Tryz.underlying221
 a46:=Tryz.isAgg221
 z46:=Tryz.sizeOf221
 v46:=Tryz.zeroValue221
 t50:=Tryz.underlying96
 a50:=Tryz.isAgg96
 z50:=Tryz.sizeOf96
 v50:=Tryz.zeroValue96
 t53:=Tryz.underlying37
 a53:=Tryz.isAgg37
 z53:=Tryz.sizeOf37
 v53:=Tryz.zeroValue37
 t55:=Tryz.underlying228
 a55:=Tryz.isAgg228
 z55:=Tryz.sizeOf228
 v55:=Tryz.zeroValue228
 t66:=Tryz.underlying274
 a66:=Tryz.isAgg274
 z66:=Tryz.sizeOf274
 v66:=Tryz.zeroValue274
 t70:=Tryz.underlying278
 a70:=Tryz.isAgg278
 z70:=Tryz.sizeOf278
 v70:=Tryz.zeroValue278
 t76:=Tryz.underlying318
 a76:=Tryz.isAgg318
 z76:=Tryz.sizeOf318
 v76:=Tryz.zeroValue318
 t77:=Tryz.underlying319
 a77:=Tryz.isAgg319
 z77:=Tryz.sizeOf319
 v77:=Tryz.zeroValue319 }
end
section
open Go Go.AM Go.RowKit Go.Lib Go.Proofs.Tryz
def infoG_G:(prog.info? 79).map (fun i=>(i.zero,i.size,i.bytes))=some (some (.agg #[.int .i64 0,.string ⟨#[]⟩,.string ⟨#[]⟩,.slice none 0 0,.slice none 0 0,.int .i64 0,.slice none 0 0,.int .i64 0,.int .i64 0,.int .i64 0,.string ⟨#[]⟩]),11,160):=by kernel_rfl
def growPos_G(n:Nat)(w:World)(h0:0<n)(hn:n<=1000000):Calls prog 55 #[.slice none 0 0,.int .i64 n] w fun e o =>
   e = .returned (.slice (some ⟨w.heap.size,0,none⟩) 0 (grownCap w n 0 79))/\o=w.drew.alloc (.cells (Builtin.zeroCells (.agg #[.int .i64 0,.string ⟨#[]⟩,.string ⟨#[]⟩,.slice none 0 0,.slice none 0 0,.int .i64 0,.slice none 0 0,.int .i64 0,.int .i64 0,.int .i64 0,.string ⟨#[]⟩]:Value).cells n++Builtin.zeroCells (.agg #[.int .i64 0,.string ⟨#[]⟩,.string ⟨#[]⟩,.slice none 0 0,.slice none 0 0,.int .i64 0,.slice none 0 0,.int .i64 0,.int .i64 0,.int .i64 0,.string ⟨#[]⟩]:Value).cells (grownCap w n 0 79-n)) 79):=by
 obtain⟨f,d,k,i,c⟩:=info_parts infoG_G
 have h1:¬((n:Int)<0):=by omega
 have m:∀w,(Go.sizeOf 79).run prog w = .ok 11 w:=fun w=>by simp[Go.sizeOf,typeInfo,d,i]
 have hold:(Builtin.firstCells f.size 0 (.slice none 0 0)).run prog w.drew = .ok ([]:List Value).toArray w.drew:=run_firstCells_none w.drew f.size 0 0 0
 have a:(0+n)*f.bytes<=140737488355328:=by rw[c];omega
 have b:∀ty,(Builtin.append_ #[73,3] ty #[.slice none 0 0,.int .i64 (n:Int)]).run prog w =
   .ok (.slice (some ⟨w.heap.size,0,none⟩) n (grownCap w n 0 79)) (w.drew.alloc (.cells (Builtin.zeroCells (.agg #[.int .i64 0,.string ⟨#[]⟩,.string ⟨#[]⟩,.slice none 0 0,.slice none 0 0,.int .i64 0,.slice none 0 0,.int .i64 0,.int .i64 0,.int .i64 0,.string ⟨#[]⟩]:Value).cells n++Builtin.zeroCells (.agg #[.int .i64 0,.string ⟨#[]⟩,.string ⟨#[]⟩,.slice none 0 0,.slice none 0 0,.int .i64 0,.slice none 0 0,.int .i64 0,.int .i64 0,.int .i64 0,.string ⟨#[]⟩]:Value).cells (grownCap w n 0 79-n)) 79)):=fun ty=>by
  have h:=Lib.run_append_grow_zeros (P:=prog) w 73 3 ty 79 f _ .i64 .i64 Tryz.underlying73 Tryz.underlying3 d k none 0 0 [] hold n h0 ω ω ω
   (by rw[c];omega)
   (growslice_fits ω a)
  simpa using h
 have j:n<=grownCap w n 0 79:=grownCap_ge w _ _ _;obtain⟨G,g⟩:=ξ (grownCap w n 0 79);rw[<-g]at b j ⊢
 have l:G<=9223372036854775807:=by
  have:=grownCap_le_maxLen w n 0 79 (by unfold maxLen;omega);rw[<-g]at this;unfold maxLen at this;omega
 have h2:RowKit.wrap64 ((0:Int)-0)=0:=by unfold RowKit.wrap64;omega
 have p:RowKit.wrap64 ((n:Int)-0)=(n:Int):=by unfold RowKit.wrap64;omega
 have q:(n:Int)> 0:=by omega
 clear hold g a
 go_enter func55,ntmps55
 go_wp2_with (at_builtin;refine Lib.wpList_append_run _ rfl _ _ _ _ rfl _ _ rfl rfl _ _ (b _) ?_)
 all_goals (go_ret;exact⟨rfl,rfl⟩)
def growNil_G(w:World):Calls prog 55 #[.slice none 0 0,.int .i64 0] w fun e a=>e = .returned (.slice none 0 0)/\a=w:=by
 go_enter func55,ntmps55
 go_wp2
 go_ret
 exact⟨rfl,rfl⟩
def grow_con_G(n:Nat)(hn:n<=1000000):ia prog 55 [.nilS,.int .i64 n] fun e z ys=>e=79/\z=11/\ys=[]:=by
 refine oR ⟨f55,func55,rfl,rfl⟩ (fun F w vals d hrel=>?_)
 obtain⟨u0,c,rfl⟩:∃u0 c,vals = #[u0,c]:=by
  obtain⟨l⟩:=vals
  match l,d with
  | [a,b],_=>exact⟨a,b,rfl⟩
 have r0:=hrel 0 _ u0 rfl rfl;have r1:=hrel 1 _ c rfl rfl;cases r0;cases r1;by_cases h0:n=0
 .subst h0
  exact(growNil_G w).mono fun e g ⟨h1,h2⟩=>⟨_,h1,by subst h2;exact Below.refl _ _,.inl rfl⟩
 .refine(growPos_G n w ω hn).mono fun e g ⟨h1,h2⟩=>?_
  subst h2;have f:=grownCap_ge w n 0 79;refine⟨_,h1,((Below.refl _ _).drew).alloc (uA _) _,.inr ⟨w.heap.size,grownCap w n 0 79,Builtin.zeroCells (.agg #[.int .i64 0,.string ⟨#[]⟩,.string ⟨#[]⟩,.slice none 0 0,.slice none 0 0,.int .i64 0,.slice none 0 0,.int .i64 0,.int .i64 0,.int .i64 0,.string ⟨#[]⟩]:Value).cells n++Builtin.zeroCells (.agg #[.int .i64 0,.string ⟨#[]⟩,.string ⟨#[]⟩,.slice none 0 0,.slice none 0 0,.int .i64 0,.slice none 0 0,.int .i64 0,.int .i64 0,.int .i64 0,.string ⟨#[]⟩]:Value).cells (grownCap w n 0 79-n),rfl,uA _,?_,ω,grownCap_le_maxLen w n 0 79 (by unfold maxLen;omega),?_⟩⟩
  .exact xL (xs:=w.heap)
  .rw[wg,size_zeroCells,size_zeroCells,<-uR,xM f];rfl
def grow_nil_G:aK prog 55 [.nilS,.int .i64 0] fun r=>r = .nilS:=by
 refine⟨⟨f55,func55,rfl,rfl⟩,fun F w vals g h d hrel=>?_⟩
 obtain⟨u0,c,rfl⟩:∃u0 c,vals = #[u0,c]:=by
  obtain⟨l⟩:=vals
  match l,d with
  | [a,b],_=>exact⟨a,b,rfl⟩
 have r0:=hrel 0 _ u0 rfl rfl;have r1:=hrel 1 _ c rfl rfl;cases r0;cases r1
 refine(growNil_G w).mono fun e f ⟨h1,h2⟩=>⟨_,_,h1,.nilS,.nilS,by subst h2;exact Below.refl _ _,rfl⟩
end
section
open Go Go.AM Go.RowKit Go.Proofs.Tryz
def extG:bC:=fun f args H=>match f,args with
 | 217,[.nilS,.int .i64 n]=>if n=0 then some (.nilS,H) else if 0<=n/\n<=1000000 then some (.buf H.length 0 0 0,H++[.buf 2 1 [] false]) else none
 | 170,[.nilS,.int .i64 n]=>if n=0 then some (.nilS,H) else if 0<=n/\n<=1000000 then some (.buf H.length 0 0 0,H++[.buf 212 2 [] false]) else none
 | 55,[.nilS,.int .i64 n]=>if n=0 then some (.nilS,H) else if 0<=n/\n<=1000000 then some (.buf H.length 0 0 0,H++[.buf 79 11 [] false]) else none
 | 112,[.nilS,.int .i64 n]=>if n=0 then some (.nilS,H) else if 0<=n/\n<=1000000 then some (.buf H.length 0 0 0,H++[.buf 101 2 [] false]) else none
 | f,args=>ext f args H
def bB:aa prog extG:=fun f args H r H' h=>by
 unfold extG at h;split at h
 .rename_i n;split at h
  .rename_i h0;subst h0;cases h;have:=bQ (H:=H) grow_nil_Z ζ;simpa only[aM,uC] using this
  split at h
  .rename_i a;cases h;have:=jr (H:=H) (sL n.toNat ω) ζ;rw[wo a.1]at this
   have h2:=aM.mono this (K':=fun x y=>x = .buf H.length 0 0 0/\y=H++[.buf 2 1 [] false]) (by
    rintro r H' ⟨e,z,xs,rfl,rfl,_,rfl,rfl,rfl⟩
    exact⟨rfl,rfl⟩)
   simpa only[aM,uC] using h2
  .cases h
 .rename_i n;split at h
  .rename_i h0;subst h0;cases h;have:=bQ (H:=H) grow_nil_N ζ;simpa only[aM,uC] using this
  split at h
  .rename_i a;cases h;have:=jr (H:=H) (sM n.toNat ω) ζ;rw[wo a.1]at this
   have h2:=aM.mono this (K':=fun x y=>x = .buf H.length 0 0 0/\y=H++[.buf 212 2 [] false]) (by
    rintro r H' ⟨e,z,xs,rfl,rfl,_,rfl,rfl,rfl⟩
    exact⟨rfl,rfl⟩)
   simpa only[aM,uC] using h2
  .cases h
 .rename_i n;split at h
  .rename_i h0;subst h0;cases h;have:=bQ (H:=H) grow_nil_G ζ;simpa only[aM,uC] using this
  split at h
  .rename_i a;cases h;have:=jr (H:=H) (grow_con_G n.toNat ω) ζ;rw[wo a.1]at this
   have h2:=aM.mono this (K':=fun x y=>x = .buf H.length 0 0 0/\y=H++[.buf 79 11 [] false]) (by
    rintro r H' ⟨e,z,xs,rfl,rfl,_,rfl,rfl,rfl⟩
    exact⟨rfl,rfl⟩)
   simpa only[aM,uC] using h2
  .cases h
 .rename_i n;split at h
  .rename_i h0;subst h0;cases h;have:=bQ (H:=H) grow_nil_C ζ;simpa only[aM,uC] using this
  split at h
  .rename_i a;cases h;have:=jr (H:=H) (me n.toNat ω) ζ;rw[wo a.1]at this
   have h2:=aM.mono this (K':=fun x y=>x = .buf H.length 0 0 0/\y=H++[.buf 101 2 [] false]) (by
    rintro r H' ⟨e,z,xs,rfl,rfl,_,rfl,rfl,rfl⟩
    exact⟨rfl,rfl⟩)
   simpa only[aM,uC] using h2
  .cases h
 .exact bX _ _ H r H' h
end
section
open Go Go.AM Go.Proofs.Tryz
def clA43:List V:=[.agg [.str ⟨#[114]⟩,.lst 1 true [.str ⟨#[97]⟩,.str ⟨#[98]⟩],.lst 2 true [.agg [.int .i64 1,.lst 3 true [.agg [.int .i64 1,.int .i64 5,.str ⟨#[]⟩],.agg [.int .i64 1,.int .i64 1,.str ⟨#[]⟩]]],.agg [.int .i64 2,.lst 3 true [.agg [.int .i64 1,.int .i64 5,.str ⟨#[]⟩],.agg [.int .i64 1,.int .i64 2,.str ⟨#[]⟩]]],.agg [.int .i64 3,.lst 3 true [.agg [.int .i64 1,.int .i64 6,.str ⟨#[]⟩],.agg [.int .i64 1,.int .i64 1,.str ⟨#[]⟩]]]]],.lst 2 false [.agg [.int .u32 1,.int .u32 2]],.lst 2 false [.agg [.int .i64 2,.int .i64 1]]]
def clR43:V:=.bool true
def clP43:AM.Pure clR43:=by simp[clR43]
def clQ43:∀a∈clA43,AM.Pure a:=by simp[clA43]
def cl43:aK prog 36 clA43 fun x=>x=clR43:=aC tok mixed aT bB (fuel:=1000) (d:=40) υ clP43
def clA46:List V:=[.agg [.str ⟨#[114]⟩,.lst 1 true [.str ⟨#[97]⟩,.str ⟨#[98]⟩],.lst 2 true [.agg [.int .i64 1,.lst 3 true [.agg [.int .i64 1,.int .i64 5,.str ⟨#[]⟩],.agg [.int .i64 1,.int .i64 1,.str ⟨#[]⟩]]],.agg [.int .i64 2,.lst 3 true [.agg [.int .i64 1,.int .i64 5,.str ⟨#[]⟩],.agg [.int .i64 1,.int .i64 2,.str ⟨#[]⟩]]],.agg [.int .i64 3,.lst 3 true [.agg [.int .i64 1,.int .i64 6,.str ⟨#[]⟩],.agg [.int .i64 1,.int .i64 1,.str ⟨#[]⟩]]]]],.lst 2 false [.agg [.int .i64 1,.int .i64 0],.agg [.int .i64 1,.int .i64 1],.agg [.int .i64 2,.int .i64 0],.agg [.int .i64 2,.int .i64 1],.agg [.int .i64 3,.int .i64 1]]]
def clR46:V:=.lst 2 false [.agg [.int .i64 3,.int .i64 0]]
def clP46:AM.Pure clR46:=by simp[clR46]
def clQ46:∀a∈clA46,AM.Pure a:=by simp[clA46]
def cl46:aK prog 39 clA46 fun x=>x=clR46:=aC tok mixed aT bB (fuel:=1000) (d:=40) υ clP46
def clA47:List V:=[.agg [.str ⟨#[114]⟩,.lst 1 true [.str ⟨#[97]⟩,.str ⟨#[98]⟩],.lst 2 true [.agg [.int .i64 1,.lst 3 true [.agg [.int .i64 1,.int .i64 5,.str ⟨#[]⟩],.agg [.int .i64 1,.int .i64 1,.str ⟨#[]⟩]]],.agg [.int .i64 2,.lst 3 true [.agg [.int .i64 1,.int .i64 5,.str ⟨#[]⟩],.agg [.int .i64 1,.int .i64 2,.str ⟨#[]⟩]]],.agg [.int .i64 3,.lst 3 true [.agg [.int .i64 1,.int .i64 6,.str ⟨#[]⟩],.agg [.int .i64 1,.int .i64 1,.str ⟨#[]⟩]]]]],.lst 2 false [.agg [.int .u32 1,.int .u32 2]],.lst 2 false [.agg [.int .i64 3,.int .i64 0]]]
def clR47:V:=.bool false
def clP47:AM.Pure clR47:=by simp[clR47]
def clQ47:∀a∈clA47,AM.Pure a:=by simp[clA47]
def cl47:aK prog 36 clA47 fun x=>x=clR47:=aC tok mixed aT bB (fuel:=1000) (d:=40) υ clP47
def clA39:List V:=[.agg [.str ⟨#[114]⟩,.lst 1 true [.str ⟨#[97]⟩,.str ⟨#[98]⟩],.lst 2 true [.agg [.int .i64 1,.lst 3 true [.agg [.int .i64 1,.int .i64 5,.str ⟨#[]⟩],.agg [.int .i64 1,.int .i64 1,.str ⟨#[]⟩]]],.agg [.int .i64 2,.lst 3 true [.agg [.int .i64 1,.int .i64 5,.str ⟨#[]⟩],.agg [.int .i64 1,.int .i64 2,.str ⟨#[]⟩]]],.agg [.int .i64 3,.lst 3 true [.agg [.int .i64 1,.int .i64 6,.str ⟨#[]⟩],.agg [.int .i64 1,.int .i64 1,.str ⟨#[]⟩]]]]],.lst 2 false [.agg [.int .u32 1,.int .u32 2]],.lst 2 false [.agg [.int .i64 2,.int .i64 0]]]
def clR39:V:=.bool true
def clP39:AM.Pure clR39:=by simp[clR39]
def clQ39:∀a∈clA39,AM.Pure a:=by simp[clA39]
def cl39:aK prog 36 clA39 fun x=>x=clR39:=aC tok mixed aT bB (fuel:=1000) (d:=40) υ clP39
def clA28:List V:=[.agg [.str ⟨#[114]⟩,.lst 1 true [.str ⟨#[97]⟩,.str ⟨#[98]⟩],.lst 2 true [.agg [.int .i64 1,.lst 3 true [.agg [.int .i64 1,.int .i64 5,.str ⟨#[]⟩],.agg [.int .i64 1,.int .i64 1,.str ⟨#[]⟩]]],.agg [.int .i64 2,.lst 3 true [.agg [.int .i64 1,.int .i64 5,.str ⟨#[]⟩],.agg [.int .i64 1,.int .i64 2,.str ⟨#[]⟩]]],.agg [.int .i64 3,.lst 3 true [.agg [.int .i64 1,.int .i64 6,.str ⟨#[]⟩],.agg [.int .i64 1,.int .i64 1,.str ⟨#[]⟩]]]]],.nilS]
def clR28:V:=.lst 2 false [.agg [.int .i64 1,.int .i64 0],.agg [.int .i64 1,.int .i64 1],.agg [.int .i64 2,.int .i64 0],.agg [.int .i64 2,.int .i64 1],.agg [.int .i64 3,.int .i64 0],.agg [.int .i64 3,.int .i64 1]]
def clP28:AM.Pure clR28:=by simp[clR28]
def clQ28:∀a∈clA28,AM.Pure a:=by simp[clA28]
def cl28:aK prog 39 clA28 fun x=>x=clR28:=aC tok mixed aT bB (fuel:=1000) (d:=40) υ clP28
def clA14:List V:=[.agg [.lst 1 false [.int .i64 1,.int .i64 1,.int .i64 1],.lst 1 false [.lst 1 false [.int .i64 0,.int .i64 1]]]]
def clR14:V:=.int .i64 0
def clP14:AM.Pure clR14:=by simp[clR14]
def clQ14:∀a∈clA14,AM.Pure a:=by simp[clA14]
def cl14:aK prog 59 clA14 fun x=>x=clR14:=aC tok mixed aT bB (fuel:=1000) (d:=40) υ clP14
def clA37:List V:=[.lst 1 true [.lst 2 false [.agg [.int .i64 1,.int .i64 0],.agg [.int .i64 1,.int .i64 1]],.lst 2 false [.agg [.int .i64 2,.int .i64 1],.agg [.int .i64 3,.int .i64 0],.agg [.int .i64 3,.int .i64 1]]]]
def clR37:V:=.lst 2 false [.agg [.int .i64 1,.int .i64 0],.agg [.int .i64 1,.int .i64 1],.agg [.int .i64 2,.int .i64 1],.agg [.int .i64 3,.int .i64 0],.agg [.int .i64 3,.int .i64 1]]
def clP37:AM.Pure clR37:=by simp[clR37]
def clQ37:∀a∈clA37,AM.Pure a:=by simp[clA37]
def cl37:aK prog 67 clA37 fun x=>x=clR37:=aC tok mixed aT bB (fuel:=1000) (d:=40) υ clP37
def clA45:List V:=[.lst 1 true [.lst 2 false [.agg [.int .i64 1,.int .i64 0],.agg [.int .i64 1,.int .i64 1],.agg [.int .i64 2,.int .i64 0],.agg [.int .i64 2,.int .i64 1]],.lst 2 false [.agg [.int .i64 3,.int .i64 1]]]]
def clR45:V:=.lst 2 false [.agg [.int .i64 1,.int .i64 0],.agg [.int .i64 1,.int .i64 1],.agg [.int .i64 2,.int .i64 0],.agg [.int .i64 2,.int .i64 1],.agg [.int .i64 3,.int .i64 1]]
def clP45:AM.Pure clR45:=by simp[clR45]
def clQ45:∀a∈clA45,AM.Pure a:=by simp[clA45]
def cl45:aK prog 67 clA45 fun x=>x=clR45:=aC tok mixed aT bB (fuel:=1000) (d:=40) υ clP45
def clA0:List V:=[.str ⟨#[114]⟩]
def clR0:V:=.bool true
def clP0:AM.Pure clR0:=by simp[clR0]
def clQ0:∀a∈clA0,AM.Pure a:=by simp[clA0]
def cl0:aK prog 49 clA0 fun x=>x=clR0:=aC tok mixed aT bB (fuel:=1000) (d:=40) υ clP0
def clA2:List V:=[.str ⟨#[98]⟩]
def clR2:V:=.bool true
def clP2:AM.Pure clR2:=by simp[clR2]
def clQ2:∀a∈clA2,AM.Pure a:=by simp[clA2]
def cl2:aK prog 49 clA2 fun x=>x=clR2:=aC tok mixed aT bB (fuel:=1000) (d:=40) υ clP2
def clA20:List V:=[.int .i64 2,.lst 2 false [.agg [.int .u32 1,.int .u32 2]]]
def clR20:V:=.int .i64 0
def clP20:AM.Pure clR20:=by simp[clR20]
def clQ20:∀a∈clA20,AM.Pure a:=by simp[clA20]
def cl20:aK prog 65 clA20 fun x=>x=clR20:=aC tok mixed aT bB (fuel:=1000) (d:=40) υ clP20
def clA22:List V:=[.nilS]
def clR22:V:=.nilS
def clP22:AM.Pure clR22:=by simp[clR22]
def clQ22:∀a∈clA22,AM.Pure a:=by simp[clA22]
def cl22:aK prog 67 clA22 fun x=>x=clR22:=aC tok mixed aT bB (fuel:=1000) (d:=40) υ clP22
end
end Go.Proofs.YtnaokiodhoadjaaGreatDoor
