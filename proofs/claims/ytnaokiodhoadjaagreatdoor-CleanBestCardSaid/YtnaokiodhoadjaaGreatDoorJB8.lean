/- JB8: texts Lay, C1, Opb, Bulk, Cut, FrB, DrK, joined and shortened by pack6.py. -/
import Derived.Test.YtnaokiodhoadjaaGreatDoorJB6
import Derived.Test.YtnaokiodhoadjaaGreatDoorJB7
import Derived.Test.YtnaokiodhoadjaaGreatDoorRows
import Derived.ProofKit
import Derived.LaidMore
import Derived.OpenShut
import Derived.Stop.Joined
import Derived.Laws.BitsAllLaws
import Derived.Laws.BitsLemmas
import Derived.Laws.Externs
import Derived.Lib.Bytealg
set_option linter.all false
set_option maxRecDepth 100000
set_option maxHeartbeats 64000000
open Array renaming getD→xV,replicate→xW
open List renaming range→tr,nil_append→uL,length_cons→uX,getElem?_cons_succ→vC
open Nat renaming add_zero→vk,strongRecOn→xG
open Option renaming map_some→uS,getD_some→wA
namespace Go.Proofs.YtnaokiodhoadjaaGreatDoor
section
open Go.ChangeShapes Go.WideShapes Go.ChangeAt Go.WideMaps Go.WideElems Go.RowKit Go.AM Go.Proofs.Tryz
def own:ownKnob prog.godebug=none:=by kernel_rfl
def laidOut:laidOutB prog=true:=by kernel_rfl
def gTab:prog.globalNamed "math/bits.deBruijn32tab" = some 0:=by kernel_rfl
def tTab:(prog.globals[0]?).map (·.type)=some 339:=by kernel_rfl
def laid1{H:Type} : List (String×DataW H):=[("math/bits.deBruijn32tab",Rows.laid_math_bits_deBruijn32tab)]
def door_met(os:Os)(args:Array Value):laidMetH prog laid1 ((World.doorLaid prog 400 os).forCall (fun _ _=>0) ⟨#[],args,[]⟩).memory :=
 laidMetH_of_parts3 (fuel:=8) (laidMet_of_run' 8 υ υ) υ υ
def of_laid{W:World}(h:laidMetH prog laid1 W):∃cs t m,W.heap[0]?=some (.cells cs t m)/\bitsC cs:=by
 rw[MakeChecks.laidMetH_plain _ _ _ υ]at h;obtain⟨ps,⟨w,t0,b,f0,p0,q0,e,g,a,j,_,_⟩,_,_⟩:=h;obtain rfl:=Option.some.inj (gTab.symm.trans e);obtain rfl:=Option.some.inj (tTab.symm.trans g);obtain⟨xs,m1,rfl,c,o,p,d⟩:=DataW.trod_array Tryz.underlying339 j
 have r:prog.cellsOf 5=1:=by kernel_rfl
 simp only[Prod.mk.injEq,Rows.laid_math_bits_deBruijn32tab,DataW.agg.injEq]at c
 obtain⟨t,m,f⟩:∃t m,W.heap[0]?=some (.cells b t m):=by
  unfold World.var? at a;rw[gTab]at a;simp only[Option.bind_some]at a;split at a
  .rename_i cs t m f;cases a;exact⟨_,_,f⟩
  .cases a
 refine⟨b,t,m,f,?_⟩;intro i x hx
 have hi:i<32:=by have:=aB hx;simpa[fu] using this
 have h1:=d i hi;rw[r,yE,tm ω]at h1;obtain⟨k,u,q,_⟩:=DataW.trod_int Tryz.underlying5 h1
 have hk:k=x:=by
  have hl:(fu.map fun y=>DataW.lit (.int .u8 y))=xs.map (·.1):=c.1;have n:=congrArg (fun l=>l[i]?) hl;simp only[uK,tm (show i<xs.length by omega),uS,hx,q,Option.some.injEq,DataW.lit.injEq,Lit.int.injEq,true_and]at n;exact n.symm
 subst hk;have s:(b.toList.drop i).take 1=[.int .u8 k]:=u
 have:b.toList[i]?=some (.int .u8 k):=by
  have v:=congrArg (fun l=>l[0]?) s;simpa[uz,vN] using v
 simpa using this
def gok{W:World}(h:laidMetH prog laid1 W):GOk prog (AM.base (fun _=>False) W):=fun e he g c=>by
 obtain rfl:=List.mem_singleton.1 he;obtain rfl:=Option.some.inj (gTab.symm.trans c);obtain⟨cs,t,m,a,b⟩:=of_laid h;refine⟨⟨?_,fun h=>h,fun k hk=>by have:=hk.1;simp[AM.base]at this⟩,cs,t,m,a,b⟩;exact(Array.getElem?_eq_some_iff.1 a).1
def cells_ok:∀t i,T t=some i->prog.cellsOf t=i.size:=fun t i hi=>by
 obtain⟨inf,h1,h2,_⟩:=tok.info t i hi;simp[Program.cellsOf,h1,h2]
end
section
open Go Go.AM Go.RowKit Go.Proofs.Tryz
def tzIx(x:Int):Nat:=(bits BinOp.and IntKind.u32 x (-x % 4294967296)*125613361 % 4294967296 / 134217728).toNat
def tzI(x:Int):Int:=if x=0 then 32 else(fu[tzIx x]?).getD 0
def tab_lt(i:Nat)(h:i<32):∃y,fu[i]?=some y/\0<=y/\y<32:=by
 have:∀i:Fin 32,∃y,fu[i.1]?=some y/\0<=y/\y<32:=by decide
 exact this ⟨i,h⟩
def tz_any(x:Int)(w:World)(hz:∀(i:Nat) y,fu[i]?=some y->w.cell? ⟨0,i,none⟩=some (.int .u8 y)):
  Calls prog 244 #[.int .u32 x] w fun e d=>e = .returned (.int .i64 (tzI x))/\d=w:=by
 by_cases hx:x=0
 .have hb:(x == 0)=true:=by simpa using hx
  go_enter func244,ntmps244
  go_wp2
  go_ret
  exact⟨by simp[tzI,hx],rfl⟩
 .have hb:(x == 0)=false:=by simpa using hx
  have h0:0<=bits BinOp.and IntKind.u32 x (-x % 4294967296)*125613361 % 4294967296 / 134217728:=by omega
  have h1:bits BinOp.and IntKind.u32 x (-x % 4294967296)*125613361 % 4294967296 / 134217728<32:=by omega
  obtain⟨y,b,y0,f⟩:=tab_lt (tzIx x) (by unfold tzIx;omega);have c:=hz _ y b;unfold tzIx at c
  have a:tzI x=y:=by simp[tzI,hx,b]
  clear hz
  go_enter func244,ntmps244
  go_wp2
  go_ret
  exact⟨by rw[a];simp,rfl⟩
def tz_con(x:Int):aK prog 244 [.int .u32 x] fun r=>r = .int .i64 (tzI x):=by
 refine⟨⟨f244,func244,rfl,rfl⟩,fun F w vals c d b hrel=>?_⟩
 obtain⟨v0,rfl⟩:∃v0,vals = #[v0]:=by
  obtain⟨l⟩:=vals
  match l,b with
  | [a],_=>exact⟨a,rfl⟩
 have h0:=hrel 0 _ v0 rfl rfl;cases h0
 refine(tz_any x w (c.bits 0 υ).2).mono fun e f ⟨h1,h2⟩=>⟨_,_,h1,.int _ _,.int _ _,by subst h2;exact Below.refl _ _,rfl⟩
def mt(a b:ByteArray):Int:=Lib.compareBytes a.data.toList b.data.toList
def cmp_any(a b:ByteArray)(w:World):Calls prog 269 #[.string a,.string b] w fun e d=>e = .returned (.int .i64 (mt a b))/\d=w:=by
 have c:∀w,(callFunc 284 #[.string a,.string b]).run prog w = .ok (.value (.int .i64 (mt a b))) w:=fun w=>by
  rw[run_callFunc_extern func284 υ υ υ (e:=Extern.BytealgCompare.compare) υ,Lib.run_compareString];rfl
 go_enter func269,ntmps269
 go_wp2_with (simp only[c])
 go_ret
 exact⟨rfl,rfl⟩
def cmp_con(a b:ByteArray):aK prog 269 [.str a,.str b] fun r=>r = .int .i64 (mt a b):=by
 refine⟨⟨f269,func269,rfl,rfl⟩,fun F w vals g d c hrel=>?_⟩
 obtain⟨v0,v1,rfl⟩:∃v0 v1,vals = #[v0,v1]:=by
  obtain⟨l⟩:=vals
  match l,c with
  | [a,b],_=>exact⟨a,b,rfl⟩
 have h0:=hrel 0 _ v0 rfl rfl;have h1:=hrel 1 _ v1 rfl rfl;cases h0;cases h1
 refine(cmp_any a b w).mono fun e f ⟨h1,h2⟩=>⟨_,_,h1,.int _ _,.int _ _,by subst h2;exact Below.refl _ _,rfl⟩
end
end Go.Proofs.YtnaokiodhoadjaaGreatDoor
namespace Go.AM
section
open Go Go.Deep Go.AM Go.Proofs.Tryz
section
structure BulkOk {H:Type} (bk:DataW H->Nat):Prop where
 len:∀es sp,es.length<=bk (.slice es sp)
 elem:∀es sp d,d∈es->bk d<=bk (.slice es sp)
 part:∀ps d,d∈ps->bk d<=bk (.agg ps)
def ShB(T:Ty)(Bd:Nat):Nat->TypeId->List V->Prop
 | 0,_,_=>False
 | n+1,t,vs=>match T t with
  | none=>False
  | some i=>match i.desc with
   | .bool=>∃b,vs=[.bool b]
   | .int k=>∃m,vs=[.int k m]/\(Lit.int k m).wf=true
   | .string=>∃s,vs=[.str s]/\s.size<=maxLen
   | .slice e=>match T e with
    | some j=>∃xs,vs=[.lst j.size false xs]/\xs.length<=maxLen/\xs.length<=Bd/\∀x∈xs,∃ws,ShB T Bd n e ws/\ws.length=j.size/\x=(if cZ j.desc then .agg ws else ws.headD .undef)
    | none=>False
   | .struct fs=>vs.length=i.size/\∀f∈fs.toList,∃j,T f.type=some j/\ShB T Bd n f.type ((vs.drop f.offset).take j.size)
   | _=>False
section
variable {P:Program} {T:Ty} {Bd:Nat} {Hd:Type} {enc:TypeId×Value->Hd} {w:World} {held:Bool}
theorem pn{n tot:Nat}{cs:List Value}(d:cs.length=tot):∀(l:List Field) (off:Nat),nh T tot off l=true->off<=tot ->
  (∀f∈l,∀j,T f.type=some j->∃vs,CR w vs ((cs.drop f.offset).take j.size)/\ShB T Bd n f.type vs)->
  ∃vs,CR w vs (cs.drop off)/\∀f∈l,∃j,T f.type=some j/\off<=f.offset/\ShB T Bd n f.type ((vs.drop (f.offset-off)).take j.size)
 | [],off,h,k,_=>by
  simp only[nh,beq_iff_eq]at h;refine⟨[],⟨χ,ζ,ζ⟩,ζ⟩
 | f::r,off,h,k,hf=>by
  simp only[nh]at h;split at h
  .rename_i j t;simp only[tt,beq_iff_eq]at h;obtain⟨a,h⟩:=h;have i:off+j.size<=tot:=lay_le r _ h;obtain⟨vs,b,m⟩:=hf f ζ j t;obtain⟨ws,e,s⟩:=pn d r (off+j.size) h i (fun g c=>hf g (by simp[c]))
   have q:vs.length=j.size:=by rw[b.len,a,vQ,xP];omega
   refine⟨vs++ws,?_,fun g c=>?_⟩
   .have:=b.append e
    rwa [a,<-List.drop_drop,vT]at this
   .rcases List.mem_cons.1 c with rfl | c
    .refine⟨j,t,ω,?_⟩;rw[a,vz,uG,List.take_append_of_le_length ω,uY ω];exact m
    .obtain⟨v,p,u,o⟩:=s g c;refine⟨v,p,ω,?_⟩;rw[List.drop_append,tj ω,uL,q,(ω:g.offset-off-j.size=g.offset-(off+j.size))];exact o
  .cases h
where
 lay_le {tot:Nat} : ∀(l:List Field) (off:Nat),nh T tot off l=true->off<=tot
  | [],off,h=>by simp only[nh,beq_iff_eq]at h;omega
  | f::r,off,h=>by
   simp only[nh]at h;split at h
   .simp only[tt]at h;have:=lay_le r _ h.2;omega
   .cases h
theorem opnB{bk:DataW Hd->Nat}(Q:BulkOk bk)(hT:TOk P T)(S:∀t i,T t=some i->P.cellsOf t=i.size):∀(n fuel:Nat) (t:TypeId) (cs:List Value) (x:DataW Hd×List MemPlace),ShOk T n t=true->DataW.trod enc P w 0 (fun _=>true) held fuel t cs=some x->bk x.1<=Bd->∃vs,CR w vs cs/\ShB T Bd n t vs
 | 0,_,_,_,_,h,_,_=>by simp[ShOk]at h
 | n+1,fuel,t,cs,x,h,ht,r=>by
  simp only[ShOk]at h;split at h
  .cases h
  .rename_i i hi;have hu:=hT.und t i hi;have hcell:=S t i hi;split at h
   .rename_i A;rw[A]at hu
    cases fuel with
    | zero=>simp[DataW.trod]at ht
    | succ m =>
     unfold DataW.trod at ht;rw[hu]at ht;split at ht<;>simp_all;exact⟨_,CR.single (.bool _) rfl,by simp[ShB,hi,A]⟩
   .rename_i k A;rw[A]at hu
    cases fuel with
    | zero=>simp[DataW.trod]at ht
    | succ m =>
     unfold DataW.trod at ht;rw[hu]at ht;split at ht<;>simp_all;exact⟨_,CR.single (.int _ _) rfl,by simp[ShB, *]⟩
   .rename_i A;rw[A]at hu
    cases fuel with
    | zero=>simp[DataW.trod]at ht
    | succ m =>
     unfold DataW.trod at ht;rw[hu]at ht;split at ht<;>simp_all;exact⟨_,CR.single (.str _) rfl,by simp[ShB, *]⟩
   .rename_i e A;rw[A]at hu;split at h
    .rename_i j K;simp only[tt,decide_eq_true_eq,vA,beq_iff_eq]at h;obtain⟨⟨hz,an⟩,aJ⟩:=h
     rcases open_slice hu ht with⟨rfl,_⟩ | ⟨a,len,cap,m,q,D,Pl,rfl,_,a8,hcap,hm,H,N⟩
     .exact⟨[.lst j.size false []],CR.single (dq _ false _ _ ζ) rfl,by simp only[ShB,hi,A,K];exact⟨[],rfl,ζ,ζ,ζ⟩⟩
     .simp only[if_true]at hm;subst hm;rw[S e j K]at N
      have aA:∀i,i<len->bk (D i)<=Bd:=fun i E=>ug (Q.elem _ _ (D i) (List.mem_map.2 ⟨i,List.mem_range.2 E,rfl⟩)) (by rw[H]at r;exact r)
      have a7:len<=Bd:=by
       have h1:=Q.len ((tr len).map D) ((tr (m-len)).map fun j=>D (len+j));rw[ud,xb]at h1;rw[H]at r;exact ug h1 r
      have al:∀i,i<len->∃ws:List V,ShB T Bd n e ws/\ws.length=j.size/\(∀v∈ws,v.one=true)/\∀(l:Nat) v,ws[l]?=some v->∃c,w.cell? (a.add (i*j.size+l))=some c/\Rel (base (fun _=>False) w) v c:=fun i b=>by
       obtain⟨M,h1,h2⟩:=N i ω;obtain⟨ws,g,L⟩:=opnB Q hT S n q e M _ aJ h2 (aA i b);obtain⟨_,U,ay⟩:=World.cells?_some h1;refine⟨ws,L,by rw[g.len,U],g.one,fun l v hv=>?_⟩
       have hl:l<j.size:=by have:=aB hv;rw[g.len,U]at this;exact this
       have I:M[l]?=some (M[l]'ω):=tm ω;have:=ay l hl;rw[I,add_add]at this;exact⟨_,this,g.rel l v _ hv I⟩
      obtain⟨W,hW⟩:=choose_lt al
      obtain⟨xs,Y⟩:∃xs:List V,xs=(tr len).map fun i=>(if cZ j.desc then V.agg (W i) else(W i).headD .undef):=⟨_,rfl⟩
      have J:xs.length=len:=by simp[Y]
      have p:∀(i:Nat) y,xs[i]?=some y->i<len/\y=(if cZ j.desc then V.agg (W i) else(W i).headD .undef)/\y.cells=W i:=fun i y z=>by
       have b:i<len:=by have:=aB z;omega
       rw[Y,uK,vX b]at z;simp only[uS,Option.some.injEq]at z;obtain⟨_,O,Z,_⟩:=hW i b;refine⟨b,z.symm,?_⟩;rw[<-z];split
       .rfl
       .rename_i ax
        have a6:j.size=1:=by rcases an with h | h;exact absurd h ax;exact h
        obtain⟨v,hv⟩:=List.length_eq_one_iff.1 (O.trans a6);rw[hv];exact one_cells (Z v (by rw[hv];simp))
      have L:∀y∈xs,∃ws,ShB T Bd n e ws/\ws.length=j.size/\y=(if cZ j.desc then V.agg ws else ws.headD .undef):=fun y z=>by
       obtain⟨i,E⟩:=List.mem_iff_getElem?.1 z;obtain⟨b,ad,_⟩:=p i y E;exact⟨W i,(hW i b).1,(hW i b).2.1,ad⟩
      refine⟨[.lst j.size false xs],CR.single ?_ rfl,by simp only[ShB,hi,A,K];exact⟨xs,rfl,ω,ω,L⟩⟩
      .have o:0<len->a.spot=none/\a.block<w.heap.size:=fun h0=>by
        obtain⟨_,O,_,I⟩:=hW 0 h0;obtain⟨c,d,_⟩:=I 0 (W 0)[0] (tm ω);simp only[vp,vk]at d;have hb:=World.block_lt_of_cell? w _ d;have hs:=spot_cell d;simpa[Addr.add] using And.intro hs hb
       have:=Rel.lst (s:=base (fun _=>False) w) j.size false xs (some a) m a.block a.off (fun i l=>(w.cell? ⟨a.block,a.off+i*j.size+l,none⟩).getD undef) ω ζ (fun h0=>by
         obtain⟨h1,h2⟩:=o ω
         exact⟨by cases a;simp_all,h2,fun h=>h,fun k hk=>by have:=hk.1;simp[base]at this⟩)
        (fun y z=>by
         obtain⟨i,E⟩:=List.mem_iff_getElem?.1 z;obtain⟨b,_,F⟩:=p i y E;rw[F]
         exact⟨(hW i b).2.1,(hW i b).2.2.1⟩)
        (fun i y l c z d=>by
         obtain⟨b,_,F⟩:=p i y z;rw[F]at d;obtain⟨u,B,_⟩:=(hW i b).2.2.2 l c d;rw[addr_at (o ω).1,<-vU]at B;show w.cell? _=_
         rw[B];rfl)
        (fun i y l c z d=>by
         obtain⟨b,_,F⟩:=p i y z;rw[F]at d;obtain⟨u,B,az⟩:=(hW i b).2.2.2 l c d;rw[addr_at (o ω).1,<-vU]at B;rw[B]
         exact az)
       rwa [J]at this
    .cases h
   .rename_i fs A;rw[A]at hu;simp only[tt,uZ]at h;obtain⟨xs,q,_,H,C,J,hf⟩:=DataW.trod_struct hu ht;rw[hcell]at C
    obtain⟨vs,g,a2⟩:=pn (T:=T) (Bd:=Bd) (w:=w) (n:=n) C fs.toList 0 h.1 (wV _) (fun f G j K=>by
     obtain⟨k,hk⟩:=List.mem_iff_getElem?.1 G
     have X:fs[k]?=some f:=by simpa using hk
     have h1:=hf k f X
     have R:k<xs.length:=by rw[J];exact(Array.getElem?_eq_some_iff.1 X).1
     rw[tm R,S f.type j K]at h1
     exact opnB Q hT S n q f.type _ _ (h.2 f G) h1 (ug (Q.part _ _ (List.mem_map.2 ⟨_,ti R,rfl⟩)) (by rw[H]at r;exact r)))
    rw[uG]at g;refine⟨vs,g,?_⟩;simp only[ShB,hi,A];refine⟨by rw[g.len,C],fun f G=>?_⟩;obtain⟨j,K,_,hs⟩:=a2 f G;exact⟨j,K,by simpa using hs⟩
   .cases h
end
end
end
end Go.AM
namespace Go.Proofs.YtnaokiodhoadjaaGreatDoor
section
open Go Go.AM Go.Proofs.Tryz
def bulk_one{H:Type}(d:DataW H):1<=Rows.uptoBulk d:=by
 cases d with
 | lit l=>cases l<;>simp[Rows.uptoBulk]
 | nil=>simp[Rows.uptoBulk]
 | ptr d=>simp[Rows.uptoBulk]
 | slice a b=>simp[Rows.uptoBulk]
 | agg l=>simp[Rows.uptoBulk]
 | iface t d=>simp[Rows.uptoBulk]
 | map l=>simp[Rows.uptoBulk]
 | held h=>simp[Rows.uptoBulk]
theorem tP{H:Type}{d:DataW H} : ∀{l:List (DataW H)},d∈l->Rows.uptoBulk d<=Rows.uptoBulkAll l
 | [],h=>by cases h
 | x::r,h=>by
  rw[Rows.uptoBulkAll]
  rcases List.mem_cons.1 h with rfl | h
  .omega
  .have:=tP h;omega
theorem bulk_len{H:Type} : ∀l:List (DataW H),l.length<=Rows.uptoBulkAll l
 | []=>by simp
 | x::r=>by
  rw[Rows.uptoBulkAll,uX];have:=bulk_one x;have:=bulk_len r;omega
def bulk_ok{H:Type} : BulkOk (H:=H) Rows.uptoBulk where
 len es sp:=by rw[Rows.uptoBulk];have:=bulk_len es;omega
 elem es sp d h:=by rw[Rows.uptoBulk];have:=tP h;omega
 part ps d h:=by rw[Rows.uptoBulk];have:=tP h;omega
def bulk_le{H:Type}{l:List (DataW H)}(h:Rows.uptoSmall H l=true):Rows.uptoBulkAll l<=1048576:=of_decide_eq_true h
def lg{P:Program}{f:FuncId}{args:List V}{H:List B}{σ:Type}{ok:σ->Prop}{rf:σ->V}{Hf:σ->List B}(h:ak P f args H fun r H'=>∃x,ok x/\r=rf x/\∃G,H'=Hf x++G)(hl:∀x,ok x->H.length<=(Hf x).length)(hr:∀x,ok x->rb (Hf x).length (rf x))(hb:∀x,ok x->∀bl∈Hf x,rbB (Hf x).length bl):ak P f args H fun r H'=>∃x,ok x/\r=rf x/\H'=Hf x:=by
 refine⟨h.1,fun s vals h1 h2 i l=>(h.2 s vals h1 h2 i l).mono fun e m ⟨u,s',r,a,b,c,d,k,x,k1,j,G,g⟩=>?_⟩;subst j;exact⟨u,s'.cut (Hf x),rf x,a,b,cut_good c g (hb x k1),oN c g (Step.refl _) s d (by rw[h1.1];exact hl x k1),lZ g k (hr x k1),x,k1,rfl,rfl⟩
def W_frzB{P:Program}(k j:Nat){k0 e0 e z:Nat}{xs ys:List V}{fz:Bool}{c:Code}{Q:Exit->List V->List B->Prop}{fr:List V}{H:List B}(L:k0≠k)(hk:H[k]?=some (.buf e z ys fz))(D:H[k0]?=some (.buf e0 1 xs false))(I:xs[j]?=some (.buf k 0 ys.length ys.length))
  (h:W P c Q fr ((H.set k (.buf e z ys true)).set k0 (.buf e0 1 (xs.set j (.lst z false ys)) false))):W P c Q fr H:=by
 intro s a hA K hf r;obtain⟨rfl,Z⟩:=hA;obtain⟨p1,G,_⟩:=pK K hk;generalize g:s.frz k (.buf e z ys true)=b at p1 G
 have q:b.H[k0]?=some (.buf e0 1 xs false):=by rw[<-g];simp only[St.frz];rw[uH (Ne.symm L)];exact D
 have p:∀x y u,Rel s x u->(y=x\/(x = .buf k 0 ys.length ys.length/\y = .lst z false ys))->Rel b y u:=fun x y u h1 h2=>by subst g;exact nt K hk h1 h2
 have t:b.w=s.w:=by rw[<-g];rfl
 have J:b.φ k0=s.φ k0:=by rw[<-g];rfl
 have m:b.κ k0=s.κ k0:=by rw[<-g];rfl
 obtain⟨vs,X,S,Y,U,g6,R⟩:=K.blk k0 _ D
 have o:b.κ k0≠0:=by have:=aB I;omega
 have A:=lvB q o;have f:=bj (w:=b.w) (bl':=.buf e0 1 (xs.set j (.lst z false ys)) false) p1 q A (by simp[B.alike]) rfl rfl rfl (uA _) (fun _ _ _=>rfl)
 have C:∀(i:Nat) y,(xs.set j (.lst z false ys))[i]?=some y->∃x,xs[i]?=some x/\(y=x\/(x = .buf k 0 ys.length ys.length/\y = .lst z false ys)):=fun i y n=>by
  by_cases E:j=i
  .subst E;rw[uJ (aB I)]at n;exact⟨_,I,.inr ⟨rfl,(Option.some.inj n).symm⟩⟩
  .rw[uH E]at n;exact⟨y,n,.inl rfl⟩
 have F:AM.Good (b.setB b.w k0 (.buf e0 1 (xs.set j (.lst z false ys)) false)):=by
  refine bw p1 q A (by simp[B.alike]) rfl rfl rfl (uA _) (fun _ _ _=>rfl) (fun f=>?_);refine⟨vs,fun _=>by show b.w.heap[b.φ k0]?=_;rw[t,J];exact X (by rw[<-m];exact o),?_,?_,?_,fun y n=>?_,fun i y N d u n r hu=>?_⟩
  .show vs.size=b.κ k0*1;rw[m];exact S
  .show _<=b.κ k0;rw[m,vb];exact Y
  .show b.κ k0<=_;rw[m];exact U
  .obtain⟨i,hi⟩:=List.mem_iff_getElem?.1 n;obtain⟨x,hx,l⟩:=C i y hi
   rcases l with l | ⟨_,l⟩
   .rw[l];exact g6 x (tn hx)
   .rw[l];exact⟨rfl,fun c O=>by simp[V.cells]at O;subst O;rfl⟩
  .obtain⟨x,hx,l⟩:=C i y n
   rcases l with l | ⟨T,l⟩
   .subst l;exact(p d d u (R i y N d u hx r hu) (.inl rfl)).step f
   .subst l;subst T
    have M:N=0:=by have:=aB r;simp[V.cells]at this;exact this
    subst M;simp[V.cells]at r;subst r;exact(p _ _ u (R i _ 0 _ u hx rfl hu) (.inr ⟨rfl,rfl⟩)).step f
 have hH:(b.setB b.w k0 (.buf e0 1 (xs.set j (.lst z false ys)) false)).H=(s.H.set k (.buf e z ys true)).set k0 (.buf e0 1 (xs.set j (.lst z false ys)) false):=by
  rw[<-g];rfl
 have:=h (b.setB b.w k0 (.buf e0 1 (xs.set j (.lst z false ys)) false)) a ⟨hH,(Z.step G).step f⟩ F ⟨by rw[hf.len],fun i v u hv hu=>(p v v u (hf.rel i v u hv hu) (.inl rfl)).step f⟩ r;have E:(b.setB b.w k0 (.buf e0 1 (xs.set j (.lst z false ys)) false)).w=s.w:=t;rw[E]at this
 exact wp_mono this fun _ _ _ hl=>cK (G.trans f) hl
end
end Go.Proofs.YtnaokiodhoadjaaGreatDoor
namespace Go.AM
section
open Go Go.AM Go.Proofs.Tryz
section
section
variable {P:Program} {T:Ty}
theorem pg{ops:Array Oper}{fr:List V}{val a:Nat->V}{D:Nat->Bool}{t:Nat}(h:∀k,D k=true->val k=a k):∀n,bn ops fr val D n t=bn ops fr a D n t
 | 0=>rfl
 | n+1=>by
  simp only[bn];rw[pg h n];by_cases c:D n=true
  .rw[h n c]
  .rw[if_neg (fun b=>c b.1),if_neg (fun b=>c b.1)]
def drawJ_sound(hT:TOk P T){ops:Array Oper}{E:Bool->List Nat}{val:Bool->Nat->V}{Hs:Bool->Nat->List B}{fr:List V}{s0:St}{Q:Exit->Act->World->Prop}(cj:GOk P s0)
  (ck:iQ ops []=true) (hE:∀j,∀e∈E j,e<ops.size) (hnd:∀j,(E j).Nodup) (b3:∀j I e,e∈E I->e∈E j)
  (c3:∀j c i,i∈(E j).drop c->(∀e∈(E j).drop c,e≠i->bef (aN [] ops.toList) e i=false)->∃I,(E I).length=(E j).length/\(E I).take c=(E j).take c/\(E I)[c]?=some i/\Hs I c=Hs j c/\∀k,(∀e∈(E j).drop c,k≠e/\bef (aN [] ops.toList) e k=false)->val I k=val j k)
  (c5:∀j i o,ops[i]?=some o->gw T ops (aM P) (aN [] ops.toList) (E j) (Hs j) o i (aZ ops fr (val j) i) (val j i))
  (hQ:∀j s a,Good s->Step s0 s->FRel s (aZ ops fr (val j) ops.size) a.tmps->a.defers=[]->s.H=Hs j (E j).length->Q .normal a s.w):
  ∀(fuel:Nat) (b:Array Bool) (s:St) (a:Act) (j:Bool) (c:Nat),b.size=ops.size->eg ops (fun i=>b.getD i false)->
   ((tr ops.size).filter fun i=>!(b.getD i false)).length<=fuel->c<=(E j).length->(∀k e,(E j)[k]?=some e->(b.getD e false=true↔k<c))->
   Good s->Step s0 s->s.H=Hs j c->FRel s (dX ops fr (val j) fun i=>b.getD i false) a.tmps->a.defers=[]->wpAny P .any ops Q fuel b a s.w:=by
 simp only[iQ,tt,uZ,decide_eq_true_eq,vS]at ck;have bx:=ck.2
 have a6:∀(j:Nat) (o:Oper),ops[j]?=some o->∀e∈o.after.toList,Region.binds .any e=true->e.on<j:=fun j o ho e he br=>by
  have F:=(Array.getElem?_eq_some_iff.1 ho).1;have:=bx j F;rw[ho]at this;simp only[tt,uZ]at this;have h1:=this.1.1 e he;rw[br]at h1;simpa using h1
 have bz:∀(j i:Nat) (oj oi:Oper) (t:Nat),ops[j]?=some oj->ops[i]?=some oi->t∈dS ops oj->oi.dst=some t->i=j\/(i<j/\bef (aN [] ops.toList) i j=true)\/(j<i/\bef (aN [] ops.toList) j i=true):=fun j i oj oi t G b8 ht hd=>by
  have F:=(Array.getElem?_eq_some_iff.1 G).1;have hi:=(Array.getElem?_eq_some_iff.1 b8).1;have:=bx j F;rw[G]at this;simp only[tt,uZ]at this;have h2:=this.1.2 t ht i (by simpa using hi);rw[b8]at h2;simp only[hd,vA,tt,decide_eq_true_eq,beq_iff_eq,uj,beq_eq_false_iff_ne,ne_eq,not_true_eq_false,false_or]at h2
  rcases h2 with(h | h) | h
  .exact .inl h
  .exact .inr (.inl h)
  .exact .inr (.inr h)
 have Z:∀(D:Nat->Bool),eg ops D->∀i j,j<ops.size->bef (aN [] ops.toList) i j=true->D j=true->D i=true:=fun D hD i j F hb b5=>by
  obtain⟨ms,h1,h2,_⟩:=jQ ops.toList [];rw[uL]at h1
  have a7:(aN [] ops.toList).length=ops.size:=by rw[h1,h2];simp
  have hm:(aN [] ops.toList)[j]?=some ((aN [] ops.toList)[j]'ω):=tm ω;unfold bef at hb;rw[hm]at hb;exact pr hD a6 j i _ hm hb b5
 have cm:∀(b:Array Bool) (s:St) (a:Act) (n:Bool) (c:Nat),(∀i,i<ops.size->b.getD i false=true)->c<=(E n).length->(∀k e,(E n)[k]?=some e->(b.getD e false=true↔k<c))->Good s->Step s0 s->s.H=(Hs n) c ->
   FRel s (dX ops fr (val n) fun i=>b.getD i false) a.tmps->a.defers=[]->Q .normal a s.w:=fun b s a n c hall hc z hg hs W hf hd=>by
  have az:c=(E n).length:=by
   rcases uP c (E n).length with h | h
   .have he:(E n)[c]?=some (E n)[c]:=tm h;have:=(z c _ he).1 (hall _ (hE n _ (ti h)));omega
   .omega
  subst az;refine hQ n s a hg hs ?_ hd W
  have:(dX ops fr (val n) fun i=>b.getD i false)=aZ ops fr (val n) ops.size:=by
   apply uw;intro t;rw[dR,eV];refine da (fun j F _=>hall j F) (fun j F y=>?_) ops.size (uA _);rw[ww F]at y;simp at y
  rwa [this]at hf
 have done:∀(b:Array Bool),b.size=ops.size->Region.ready .any ops b=[]->∀i,i<ops.size->b.getD i false=true:=fun b aJ hr i=>by
  induction i using xG with
  | _ i ih =>
   intro hi
   cases hD:b.getD i false with
   | true=>rfl
   | false =>
    exfalso
    have ax:i∈Region.ready .any ops b:=by
     unfold Region.ready;rw[vR]
     have ho:ops[i]?=some ops[i]:=by simp[hi]
     have aA:i<b.size:=by omega
     refine⟨by simpa using hi,?_⟩;rw[ho];simp only[uS,wA,tt,uj];refine⟨by simp[xV,aA]at hD ⊢;exact hD,?_⟩;rw[xv];intro e he;by_cases br:Region.binds .any e=true
     .have M:=a6 i _ ho e (by simpa using he) br;simp[ih e.on M ω]
     .simp[br]
    rw[hr]at ax;simp at ax
 intro fuel
 induction fuel with
 | zero =>
  intro b s a n c aJ an cI hc z hg hs W hf hd
  have hall:∀i,i<ops.size->b.getD i false=true:=fun i hi=>by
   cases hD:b.getD i false with
   | true=>rfl
   | false =>
    exfalso
    have:i∈(tr ops.size).filter fun i=>!(b.getD i false):=by rw[vR];exact⟨by simpa using hi,by simp only[hD];rfl⟩
    have h0:((tr ops.size).filter fun i=>!(b.getD i false))=[]:=vL ω;rw[h0]at this;simp at this
  refine⟨?_,cm b s a n c hall hc z hg hs W hf hd⟩;unfold Region.ready;rw[List.filter_eq_nil_iff];intro i hi
  have aA:i<b.size:=by rw[aJ];simpa using hi
  have:=hall i (by simpa using hi)
  have h1:b.getD i true=true:=by simpa[xV,aA] using this
  simp[h1]
 | succ fuel ih =>
  intro b s a n c aJ an cI hc z hg hs W hf hd;refine⟨fun hr=>cm b s a n c (done b aJ hr) hc z hg hs W hf hd,fun i hi=>?_⟩;unfold Region.ready at hi;rw[vR]at hi;obtain⟨a2,hcond⟩:=hi
  have a2:i<ops.size:=by simpa using a2
  have aA:i<b.size:=by omega
  have ho:ops[i]?=some ops[i]:=by simp[a2]
  generalize ops[i]=o at ho;rw[ho]at hcond;simp only[uS,wA,tt,uj]at hcond;obtain⟨ad,ba⟩:=hcond
  have ad:b.getD i false=false:=by simp only[xV,aA,dif_pos]at ad ⊢;exact ad
  rw[xv]at ba
  have J:∀j,(b.setIfInBounds i true).getD j false=if j=i then true else b.getD j false:=fun j=>by
   by_cases F:j=i
   .subst F;simp[xV,aA]
   .rw[if_neg F,vg,vg,wW (Ne.symm F)]
  have N:eg ops (fun j=>(b.setIfInBounds i true).getD j false):=fun j oj G F e he hb=>by
   simp only[J]at F ⊢;by_cases K:j=i
   .subst K;rw[ho]at G;cases G;have:=ba e (by simpa using he);rw[hb]at this;simp at this;split
    .rfl
    .simpa using this
   .rw[if_neg K]at F;split
    .rfl
    .exact an j oj G F e he hb
  have before:∀j,j≠i->bef (aN [] ops.toList) j i=true->b.getD j false=true:=fun j K hb=>by
   have:=Z _ N j i a2 hb (by simp[J]);simp only[J,if_neg K]at this;exact this
  have al:∀j,j<ops.size->bef (aN [] ops.toList) i j=true->b.getD j false=false:=fun j F hb=>by
   cases b5:b.getD j false with
   | false=>rfl
   | true=>have:=Z _ an i j F hb b5;rw[ad]at this;cases this
  have ci:∃I,(E I).length=(E n).length/\(∀k e,(E I)[k]?=some e->(b.getD e false=true↔k<c))/\s.H=Hs I c/\FRel s (dX ops fr (val I) fun i=>b.getD i false) a.tmps/\(i∈E I->(E I)[c]?=some i):=by
   by_cases A:i∈E n
   .obtain⟨ki,b7⟩:=wJ A
    have O:c<=ki:=by
     rcases uP ki c with h | h
     .have:=(z ki i b7).2 h;rw[ad]at this;cases this
     .exact h
    have cg:i∈(E n).drop c:=tn (i:=ki-c) (by rw[vN,xM O];exact b7)
    have bb:∀e∈(E n).drop c,b.getD e false=false:=fun e he=>by
     obtain⟨k,hk⟩:=wJ he;rw[vN]at hk
     cases hD:b.getD e false with
     | false=>rfl
     | true=>have:=(z _ e hk).1 hD;omega
    obtain⟨I,h1,h2,h3,h4,h5⟩:=c3 n c i cg (fun e he c6=>by
     cases hb:bef (aN [] ops.toList) e i with
     | false=>rfl
     | true=>have:=before e c6 hb;rw[bb e he]at this;cases this)
    refine⟨I,h1,fun k e hk=>?_,W.trans h4.symm,?_,fun _=>h3⟩
    .rcases uP k c with O | O
     .have bi:(E n)[k]?=some e:=by
       have e1:((E I).take c)[k]?=some e:=by rw[uz,if_pos O];exact hk
       rw[h2,uz,if_pos O]at e1;exact e1
      exact z k e bi
     .constructor
      .intro hD;exfalso;have ax:e∈E n:=b3 n I e (tn hk);obtain⟨k2,bi⟩:=wJ ax;have M:=(z k2 e bi).1 hD
       have e1:((E n).take c)[k2]?=some e:=by rw[uz,if_pos M];exact bi
       rw[<-h2,uz,if_pos M]at e1;have cb:=aB e1;have ay:=aB hk
       have e2:(E I)[k2]=e:=by rw[tm cb]at e1;exact Option.some.inj e1
       have e3:(E I)[k]=e:=by rw[tm ay]at hk;exact Option.some.inj hk
       have:=(List.getElem_inj (hnd I)).1 (e2.trans e3.symm);omega
      .intro h;omega
    .have hv:(dX ops fr (val I) fun i=>b.getD i false)=(dX ops fr (val n) fun i=>b.getD i false):=by
      apply uw;intro t;rw[dR,dR];refine pg (fun k hk=>?_) _
      refine h5 k fun e he=>⟨fun h=>?_,?_⟩
      .subst h;rw[bb _ he]at hk;cases hk
      .cases hb:bef (aN [] ops.toList) e k with
       | false=>rfl
       | true =>
        have ay:k<ops.size:=by
         rcases uP k ops.size with h | h
         .exact h
         .rw[vg,ww ω]at hk;cases hk
        have:=Z _ an e k ay hb hk;rw[bb e he]at this;cases this
     rw[hv];exact hf
   .exact⟨n,rfl,z,W,hf,fun h=>absurd h A⟩
  obtain⟨I,c1,cB,b6,ca,c2⟩:=ci;rw[<-c1]at hc;clear z W hf;have z:=cB;have W:=b6;have hf:=ca;clear cB b6 ca c1;clear n
  rename Bool=>n
  have Y:∀t,t∈dS ops o->(∀j,j<i->(ops[j]?).bind (·.dst)=some t->b.getD j false=true)/\(∀j,i<j->(ops[j]?).bind (·.dst)=some t->b.getD j false=false):=fun t ht=>by
   refine⟨fun j F y=>?_,fun j F y=>?_⟩
   .cases G:ops[j]? with
    | none=>rw[G]at y;simp at y
    | some oj =>
     rw[G]at y
     rcases bz i j o oj t ho G ht (by simpa using y) with h | h | h
     .omega
     .exact before j ω h.2
     .omega
   .cases G:ops[j]? with
    | none=>rw[G]at y;simp at y
    | some oj =>
     rw[G]at y
     rcases bz i j o oj t ho G ht (by simpa using y) with h | h | h
     .omega
     .omega
     .exact al j (Array.getElem?_eq_some_iff.1 G).1 h.2
  have agree:∀t,t∈dS ops o->(dX ops fr (val n) fun i=>b.getD i false)[t]?=(aZ ops fr (val n) i)[t]?:=fun t ht=>by
   rw[dR,eV];refine da (Y t ht).1 (fun j F y=>?_) ops.size ω;by_cases K:j=i
   .subst K;exact ad
   .exact(Y t ht).2 j ω y
  have be:∀x∈o.op.operands,aO (dX ops fr (val n) fun i=>b.getD i false) x=aO (aZ ops fr (val n) i) x:=fun x hx=>by
   refine qA fun t e=>agree t ?_
   subst e;simp only[dS,Oper.looksAt,vG,List.mem_filterMap];exact .inl (.inl ⟨.tmp t,by simpa using hx,rfl⟩)
  have b4:bU ops (dX ops fr (val n) fun i=>b.getD i false) o=bU ops (aZ ops fr (val n) i) o:=by
   unfold bU
   cases c4:o.guard with
   | none=>rfl
   | some g =>
    obtain⟨j,want⟩:=g;simp only
    cases G:ops[j]? with
    | none=>rfl
    | some oj =>
     simp only
     cases a8:oj.dst with
     | none=>rfl
     | some d =>
      simp only;rw[agree d (by simp[dS,Oper.looksAt,c4,G,a8])]
  have next:∀{s1:St} {u:Value} {c':Nat},Good s1->Step s s1->Rel s1 ((val n) i) u->c'<=(E n).length->s1.H=(Hs n) c'->(∀k e,(E n)[k]?=some e->((b.setIfInBounds i true).getD e false=true↔k<c'))->
    wpAny P .any ops Q fuel (b.setIfInBounds i true) (a.put o.dst u) s1.w:=fun {s1 u c'} g1 g2 g3 g4 g5 g6=>by
   refine ih _ s1 _ n c' (by simp[aJ]) N ?_ g4 g6 g1 (hs.trans g2) g5 ?_ (by rw[mU];exact hd)
   .have:=kZ (p:=fun j=>!(b.getD j false)) (q:=fun j=>!((b.setIfInBounds i true).getD j false)) (i:=i) (by simp only[ad];rfl) (by simp[J]) (fun j F=>by
     simp only[J]at F;split at F
     .simp at F
     .exact F) (l:=tr ops.size) (by simpa using a2)
    omega
   .have ct:(dX ops fr (val n) fun j=>(b.setIfInBounds i true).getD j false)=bL (dX ops fr (val n) fun j=>b.getD j false) o.dst ((val n) i):=by
     apply uw;intro t;rw[dR]
     cases y:(o.dst:Option Nat) with
     | none =>
      simp only[bL];rw[dR];refine eP (fun j F=>?_) _;simp only[J];split
      .rename_i K;subst K;rw[ho]at F;simp[y]at F
      .rfl
     | some d =>
      simp only[bL]
      have a7:(dX ops fr (val n) fun j=>b.getD j false).length=fr.length:=by simp[dX]
      by_cases b2:d=t
      .subst b2;have hm:=Y d (by simp[dS,y])
       have e1:=da (fr:=fr) (val:=val n) (D:=fun j=>(b.setIfInBounds i true).getD j false) (i:=i+1) (t:=d) (fun j F a8=>by
        simp only[J];split
        .rfl
        .exact hm.1 j ω a8) (fun j F a8=>by
        simp only[J];rw[if_neg ω]
        exact hm.2 j ω a8) ops.size ω
       rw[e1];simp only[bn];by_cases M:d<fr.length
       .rw[if_pos ⟨trivial,by rw[ho];simpa using y,M⟩,uJ (by rw[a7];exact M)]
       .rw[if_neg (by simp[M]),xI,if_pos rfl,if_neg (by rw[a7];exact M)];have:=hY (ops:=ops) (fr:=fr) (val:=val n) (D:=fun _=>true) i d
        cases h:bn ops fr (val n) (fun _=>true) i d with
        | none=>rfl
        | some v=>rw[h]at this;simp[M]at this
      .rw[uH b2,dR];refine eP (fun j F=>?_) _;simp only[J];split
       .rename_i K;subst K;rw[ho]at F;simp[y]at F;exact absurd F b2
       .rfl
    rw[ct];exact(hf.step g2).put g3 o.dst
  have R:i∉(E n)->∀k e,(E n)[k]?=some e->((b.setIfInBounds i true).getD e false=true↔k<c):=fun A k e he=>by
   rw[J,if_neg (fun h:e=i=>A (by rw[<-h];exact tn he))];exact z k e he
  have bY:i∉(E n)->kL (aN [] ops.toList) (E n) i c=true:=fun A=>by
   simp only[kL,uZ,vS];intro k hk;have he:(E n)[k]?=some (E n)[k]:=tm hk;rw[he];simp only;split
   .rename_i O;have hD:=(z k _ he).2 O
    cases hb:bef (aN [] ops.toList) i (E n)[k] with
    | false=>rfl
    | true=>have:=al _ (hE n _ (ti hk)) hb;rw[hD]at this;cases this
   .rename_i O
    cases hb:bef (aN [] ops.toList) (E n)[k] i with
    | false=>rfl
    | true =>
     have:=before _ (fun h=>A (h▸ti hk)) hb;exact absurd ((z k _ he).1 this) O
  have cp:i∈E n->(E n).idxOf i=c/\(∀k' e,(E n)[k']?=some e->((b.setIfInBounds i true).getD e false=true↔k'<c+1))/\c+1<=(E n).length:=fun A=>by
   have hk:=c2 A;have ay:=aB hk
   have U:(E n).idxOf i=c:=by
    have h1:=List.idxOf_lt_length_of_mem A
    have h2:(E n)[(E n).idxOf i]=i:=by simp
    have h3:(E n)[c]=i:=by rw[tm ay]at hk;exact Option.some.inj hk
    exact(List.getElem_inj (hnd n)).1 (h2.trans h3.symm)
   refine⟨U,fun k' e he=>?_,ω⟩;rw[J];by_cases b1:e=i
   .subst b1;have cw:=aB he
    have h2:(E n)[k']=e:=by rw[tm cw]at he;exact Option.some.inj he
    have h3:(E n)[c]=e:=by rw[tm ay]at hk;exact Option.some.inj hk
    have:=(List.getElem_inj (hnd n)).1 (h2.trans h3.symm);simp;omega
   .rw[if_neg b1,z k' e he];constructor
    .omega
    .intro h
     rcases uP k' c with h' | h'
     .exact h'
     .exfalso
      have ce:k'=c:=by omega
      subst ce;rw[hk]at he;cases he;exact b1 rfl
  have m:=c5 n i o ho;unfold gw at m;rw[<-b4]at m;unfold wpOp;rw[ho];simp only;split at m
  ·
   rename_i hw;rw[ej hf hw];simp only[uM,if_false]
   have A:i∉(E n):=by simpa using m.2
   exact next hg (Step.refl s) (by rw[m.1];exact .tup [] #[] rfl ζ) hc W (R A)
  .rename_i hw;rw[ej hf hw];simp only[if_true];left;split at m
   ·
    rename_i f args C
    have bv:f∈o.op.operands/\∀x∈args,x∈o.op.operands:=by
     unfold bF at C;split at C
     .rename_i cc c7;split at C
      .rename_i f' b9;cases C;rw[c7];simp only[Op.operands,Call.operands,b9];exact⟨ζ,fun x hx=>by simp;exact .inr (by simpa using hx)⟩
      .cases C
     .cases C
    have cE:aO (aZ ops fr (val n) i) f=aO (dX ops fr (val n) fun i=>b.getD i false) f:=(be f bv.1).symm
    have cA:args.map (aO (aZ ops fr (val n) i))=args.map (aO (dX ops fr (val n) fun i=>b.getD i false)):=vY fun x hx=>(be x (bv.2 x hx)).symm
    split at m
    .rename_i X
     have A:i∈(E n):=by simpa using X
     obtain⟨U,S,az⟩:=cp A;have L:=m;rw[U,<-W]at L;rw[cE,cA]at L;refine gq C (cj.step hs) hg hf L (fun u s1 r g1 g2 g3 g4=>?_);obtain⟨rfl,g5⟩:=g4;exact next g1 g2 g3 az g5 S
    .rename_i X
     have A:i∉(E n):=by simpa using X
     have L:=gA m c χ;rw[if_pos (bY A),<-W]at L;rw[cE,cA]at L;refine gq C (cj.step hs) hg hf L (fun u s1 r g1 g2 g3 g4=>?_);obtain⟨rfl,g5⟩:=g4;exact next g1 g2 g3 hc (g5.trans W) (R A)
   .split at m
    ·
     rename_i X
     have A:i∈(E n):=by simpa using X
     obtain⟨U,S,az⟩:=cp A;rw[U,<-lr (ρ:=aO (dX ops fr (val n) fun i=>b.getD i false)) be,<-W]at m;obtain⟨nx,s1,k1,k2,k3,k4,k5⟩:=jD (P:=P) hT hg (fun x=>hf.eval x) m;unfold Oper.wp;rw[k1]
     rcases k5 with⟨u,rfl,hr⟩ | ⟨rfl,hv⟩
     .rw[Oper.upon_value];exact next k3 k4 hr az k2 S
     .rw[Oper.upon_skip];exact next k3 k4 (by rw[hv];exact .tup [] #[] rfl ζ) az k2 S
    .rename_i X
     have A:i∉(E n):=by simpa using X
     have L:=gA m c χ;rw[if_pos (bY A),<-lr (ρ:=aO (dX ops fr (val n) fun i=>b.getD i false)) be,<-W]at L;obtain⟨nx,s1,k1,k2,k3,k4,k5⟩:=jD (P:=P) hT hg (fun x=>hf.eval x) L;unfold Oper.wp;rw[k1]
     rcases k5 with⟨u,rfl,hr⟩ | ⟨rfl,hv⟩
     .rw[Oper.upon_value];exact next k3 k4 hr hc (k2.trans W) (R A)
     .rw[Oper.upon_skip];exact next k3 k4 (by rw[hv];exact .tup [] #[] rfl ζ) hc (k2.trans W) (R A)
  .exact m.elim
end
def obl2(T:Ty)(ops:Array Oper)(n:Nat)(E1 e D:List Nat)(b a:Nat->List B)(K:List V->List B->Prop):List Oper->Nat->List V->List V->Prop
 | [],_,f1,f2=>K f1 (b n)/\K f2 (a n)
 | o::rest,i,f1,f2 =>
  if E1.contains i=true then
   (match aop T o.op (aO f1) (b (E1.idxOf i)),aop T o.op (aO f2) (a (e.idxOf i)) with
    | some (v1,f),some (d,g)=>(f=b (E1.idxOf i+1)/\g=a (e.idxOf i+1))/\obl2 T ops n E1 e D b a K rest (i+1) (bL f1 o.dst v1) (bL f2 o.dst d)
    | _,_=>False)
  else(match aop T o.op (aO f1) (b 0),aop T o.op (aO f2) (a 0) with
    | some (v1,f),some (d,g)=>((if gU o.op=true then True else gC (fun c=>aop T o.op (aO f1) (b c)=some (v1,b c)/\aop T o.op (aO f2) (a c)=some (d,a c)) (tr (n+1)))/\(if D.contains i=true then True else v1=d))/\obl2 T ops n E1 e D b a K rest (i+1) (bL f1 o.dst v1) (bL f2 o.dst d)
    | _,_=>False)
def stat2K(ops:Array Oper)(E1 a D:List Nat):Bool :=
 let ms:=aN [] ops.toList
 iQ ops []&&(E1.length == a.length&&(decide E1.Nodup&&(decide a.Nodup&&(E1.all (fun e=>a.contains e&&decide (e<ops.size))&&(a.all (fun e=>E1.contains e) &&
  ((tr ops.size).all (fun i=>(match ops[i]? with
    | some o=>o.guard.isNone&&((bF o.op).isNone&&(E1.contains i||cR o.op))
    | none=>true)&&(!D.contains i||E1.any fun e=>i == e||bef ms e i)) &&
  ([(E1,a),(a,E1)].all fun p=>(tr (E1.length+1)).all fun c=>(p.1.drop c).all fun i =>
   (!((p.1.drop c).all fun e=>e == i||!bef ms e i))||(p.1[c]? == some i||(c == 0&&p.2[0]? == some i)))))))))
section
variable {P:Program} {T:Ty}
def Out2(T:Ty)(ops:Array Oper)(n:Nat)(E1 e D:List Nat)(d a:Nat->List B)(K:List V->List B->Prop)(C:V->List V->List B->(V->List B->Prop)->Prop)(l:List Oper)(i:Nat)(f1 f2:List V):Prop :=
 ∃vs1 vs2 c b,vs1.length=l.length/\vs2.length=l.length/\dg T ops C (aN [] ops.toList) E1 d l i f1 vs1/\dg T ops C (aN [] ops.toList) e a l i f2 vs2 /\
    (∀(val:Nat->V) (fr0:List V),(∀k,k<vs1.length->vs1[k]?=some (val (i+k)))->f1=aZ ops fr0 val i->c=aZ ops fr0 val ops.size)/\
    (∀(val:Nat->V) (fr0:List V),(∀k,k<vs2.length->vs2[k]?=some (val (i+k)))->f2=aZ ops fr0 val i->b=aZ ops fr0 val ops.size)/\
    (∀k,k<l.length->D.contains (i+k)=false->E1.contains (i+k)=false->vs1[k]?=vs2[k]?)/\K c (d n)/\K b (a n)
theorem obl2_ok{ops:Array Oper}{n:Nat}{E1 m D:List Nat}{q r:Nat->List B}{K:List V->List B->Prop}{C:V->List V->List B->(V->List B->Prop)->Prop}
  (w:E1.length=n) (A:m.length=n) (j:∀i,E1.contains i=m.contains i)
  (s:∀i o,ops[i]?=some o->o.guard=none/\bF o.op=none/\(E1.contains i=false->cR o.op=true)):
  ∀(l:List Oper) (i:Nat) (f1 f2:List V),l=ops.toList.drop i->obl2 T ops n E1 m D q r K l i f1 f2 ->
   Out2 T ops n E1 m D q r K C l i f1 f2
 | [],i,f1,f2,hl,h=>by
  have hi:ops.size<=i:=by
   have:=congrArg List.length hl;simp at this;omega
  have z:∀(val:Nat->V) (fr0:List V),∀d,aZ ops fr0 val (ops.size+d)=aZ ops fr0 val ops.size:=fun val fr0 d=>by
   induction d with
   | zero=>rfl
   | succ d Y =>
    rw[(ω:ops.size+(d+1)=(ops.size+d)+1),aZ,ww ω];exact Y
  obtain⟨d,rfl⟩:=Nat.exists_eq_add_of_le hi;exact⟨[],[],f1,f2,rfl,rfl,trivial,trivial,fun val fr0 _ h=>by rw[h,z],fun val fr0 _ h=>by rw[h,z],fun k hk=>by simp at hk,h.1,h.2⟩
 | o::rest,i,f1,f2,hl,h=>by
  have ho:ops[i]?=some o:=by
   have:=congrArg (fun l=>l[0]?) hl;simp at this;exact this.symm
  have p:rest=ops.toList.drop (i+1):=by
   have:=congrArg List.tail hl;simpa using this
  obtain⟨X,E,hs⟩:=s i o ho
  have G:∀f,bU ops f o=some true:=fun f=>by unfold bU;rw[X]
  have t:∀v1 b,gw T ops C (aN [] ops.toList) E1 q o i f1 v1->gw T ops C (aN [] ops.toList) m r o i f2 b->(D.contains i=false->E1.contains i=false->v1=b)->
    obl2 T ops n E1 m D q r K rest (i+1) (bL f1 o.dst v1) (bL f2 o.dst b)->Out2 T ops n E1 m D q r K C (o::rest) i f1 f2:=fun v1 b O P F hr=>by
   obtain⟨vs1,vs2,M,N,a1,W,a3,a4,a5,Q,R,U,a9⟩:=obl2_ok (C:=C) w A j s rest (i+1) _ _ p hr
   have fr:∀(f:List V) (v:V) (vs:List V) (g:List V),(∀(val:Nat->V) (fr0:List V),(∀k,k<vs.length->vs[k]?=some (val (i+1+k)))->bL f o.dst v=aZ ops fr0 val (i+1)->g=aZ ops fr0 val ops.size)->
     ∀(val:Nat->V) (fr0:List V),(∀k,k<(v::vs).length->(v::vs)[k]?=some (val (i+k)))->f=aZ ops fr0 val i->g=aZ ops fr0 val ops.size:=fun f v vs g S val fr0 hv hf=>by
    have I:v=val i:=by have:=hv 0 ζ;simpa using this
    refine S val fr0 (fun k hk=>?_) ?_
    .have:=hv (k+1) χ;rw[vC]at this;rw[this,(ω:i+(k+1)=i+1+k)]
    .rw[aZ,ho,I,hf]
   refine⟨v1::vs1,b::vs2,M,N,by simp[a1],by simp[W],⟨O,a3⟩,⟨P,a4⟩,fr f1 v1 vs1 M a5,fr f2 b vs2 N Q,fun k hk u a=>?_,U,a9⟩
   cases k with
   | zero=>simp only[vk]at u a;simp[F u a]
   | succ k =>
    rw[vC,vC];exact R k (by simpa using hk) (by rw[(ω:i+1+k=i+(k+1))];exact u) (by rw[(ω:i+1+k=i+(k+1))];exact a)
  unfold obl2 at h;split at h
  .rename_i a;split at h
   .rename_i v1 Z b G2 q1 H;obtain⟨⟨rfl,rfl⟩,hr⟩:=h;refine t v1 b ?_ ?_ (fun _ y=>by rw[a]at y;cases y) hr
    .unfold gw;simp only[G,E,a,if_true];exact q1
    .unfold gw;simp only[G,E,j i▸a,if_true];exact H
   .exact h.elim
  .rename_i a
   have a:E1.contains i=false:=by simpa using a
   have L:m.contains i=false:=j i▸a;split at h
   .rename_i v1 Z b G2 q1 H;obtain⟨⟨hall,F⟩,hr⟩:=h
    have each:∀c,c<n+1->aop T o.op (aO f1) (q c)=some (v1,q c)/\aop T o.op (aO f2) (r c)=some (b,r c):=fun c J=>by
     split at hall
     .rename_i x;exact⟨ow x q1 _,ow x H _⟩
     .exact gA hall c (by simpa using J)
    refine t v1 b ?_ ?_ (fun u _=>?_) hr
    .unfold gw;simp only[G,E,a,uM,if_false]
     refine lM.allC_of fun c e=>?_
     split
     .exact(each c (by rw[w]at e;simpa using e)).1
     .trivial
    .unfold gw;simp only[G,E,L,uM,if_false]
     refine lM.allC_of fun c e=>?_
     split
     .exact(each c (by rw[A]at e;simpa using e)).2
     .trivial
    .rw[u]at F;simpa using F
   .exact h.elim
def W_draw2(hT:TOk P T)(hm:P.follows .mixedOrders=true){id:Nat}{ops:Array Oper}{Q:Exit->List V->List B->Prop}{fr:List V}{H:List B}(E1 d D:List Nat)(I r:List (List B))(y:stat2K ops E1 d D=true)
  (h:∀(K:List V->List B->Prop),(∀fr H,Q .normal fr H->K fr H)->obl2 T ops E1.length E1 d D (fun c=>((H::I)[c]?).getD []) (fun c=>((H::r)[c]?).getD []) K ops.toList 0 fr fr):W P (.region id ops true) Q fr H:=by
 intro s a hH hg hf hd;obtain⟨rfl,X⟩:=hH;have an:=h (Q .normal) (fun _ _ h=>h);simp only[stat2K,tt,beq_iff_eq,decide_eq_true_eq]at y;obtain⟨t1,t2,t3,t4,t5,t6,t7,t8⟩:=y
 have g:∀e∈E1,e∈d/\e<ops.size:=fun e he=>by have:=List.all_eq_true.1 t5 e he;simpa using this
 have u:∀e∈d,e∈E1:=fun e he=>by have:=List.all_eq_true.1 t6 e he;simpa using this
 have J:∀i,E1.contains i=d.contains i:=fun i=>by
  rw[vH,wE,wE];exact⟨fun h=>(g i h).1,u i⟩
 have n:∀i o,ops[i]?=some o->(o.guard=none/\bF o.op=none/\(E1.contains i=false->cR o.op=true))/\(D.contains i=true->∃e∈E1,i=e\/bef (aN [] ops.toList) e i=true):=fun i o ho=>by
  have S:=(Array.getElem?_eq_some_iff.1 ho).1;have:=List.all_eq_true.1 t7 i (by simpa using S);rw[ho]at this;simp only[tt,vA,Option.isNone_iff_eq_none,uj,wY,beq_iff_eq]at this;obtain⟨⟨O,M,v⟩,x⟩:=this;exact⟨⟨O,M,fun hE=>by rcases v with v | v;rw[hE]at v;cases v;exact v⟩,fun Y=>by rcases x with x | x;rw[Y]at x;cases x;exact x⟩
 obtain⟨vs1,vs2,O,M,a1,a2,a3,a4,a5,a6,a7,a8,a9⟩:=obl2_ok (C:=aM P) rfl t2.symm J (fun i o ho=>(n i o ho).1) ops.toList 0 fr fr ζ an
 let val:Bool->Nat->V:=fun b i=>((cond b vs1 vs2)[i]?).getD .undef
 have F:∀k,k<vs1.length->vs1[k]?=some (val true (0+k)):=fun k hk=>by simp[val,hk]
 have A:∀k,k<vs2.length->vs2[k]?=some (val false (0+k)):=fun k hk=>by simp[val,hk]
 have al:=obl_at (fr0:=fr) (val:=val true) ops.toList 0 vs1 ζ F a3;have U:=obl_at (fr0:=fr) (val:=val false) ops.toList 0 vs2 ζ A a4;have ad:=a5 (val true) fr F rfl;have R:=a6 (val false) fr A rfl;refine wp_region_any hm ?_;obtain⟨d1,d2⟩:=ig hg (w:={ s.w with drawn:=s.w.drawn+1 }) rfl rfl rfl (uA _) (fun _ _=>rfl)
 have f:∀j,(xW ops.size false).getD j false=false:=fun j=>by
  rw[vg,Array.getElem?_replicate];split<;>rfl
 have G:dX ops fr (val true) (fun i=>(xW ops.size false).getD i false)=fr:=by
  apply uw;intro t;rw[dR];exact da (i:=0) (fun j N=>absurd N ω) (fun j _ _=>f j) ops.size (wV _)
 refine drawJ_sound hT X (s0:=s) (E:=fun b=>cond b E1 d) (val:=val) (Hs:=fun b c=>((s.H::cond b I r)[c]?).getD []) t1 ?_ ?_ ?_ ?_ ?_ ?_ ops.size _ (s.at _) a true 0 ζ (fun j o _ N=>by simp only[f]at N;cases N) ?_ (wV _) (fun k e _=>by rw[f];simp) d1 d2 rfl (by rw[G];exact hf.step d2) hd
 .intro j e he
  cases j with
  | true=>exact(g e he).2
  | false=>exact(g e (u e he)).2
 .intro j
  cases j with
  | true=>exact t3
  | false=>exact t4
 .intro j j' e he
  cases j<;>cases j'<;>first | exact he | exact(g e he).1 | exact u e he
 .intro j c i hi L
  have ay:c<(cond j E1 d).length:=by
   have:=List.length_pos_of_mem hi;rw[xP]at this;omega
  have ax:(cond j E1 d).length=E1.length:=by cases j;exact t2.symm;rfl
  have p:(cond j E1 d,cond j d E1)∈[(E1,d),(d,E1)]:=by cases j<;>simp
  have q:=List.all_eq_true.1 (List.all_eq_true.1 (List.all_eq_true.1 t8 _ p) c χ) i hi;simp only[vA,uj,tt,beq_iff_eq]at q
  rcases q with q | q | ⟨rfl,q⟩
  .exfalso;rw[xy]at q;refine q (List.all_eq_true.2 fun e he=>?_);by_cases z:e=i
   .simp[z]
   .rw[L e he z];simp
  .exact⟨j,rfl,rfl,q,rfl,fun _ _=>rfl⟩
  .refine⟨!j,?_,rfl,?_,?_,fun k hk=>?_⟩
   .cases j;exact t2;exact t2.symm
   .cases j<;>exact q
   .cases j<;>rfl
   .have l:∀e∈E1,k≠e/\bef (aN [] ops.toList) e k=false:=fun e he=>hk e (by
     cases j with
     | true=>simpa using he
     | false=>simpa using(g e he).1)
    by_cases m:k<ops.size
    .have ho:ops[k]?=some ops[k]:=by simp[m]
     have Y:D.contains k=false:=by
      cases Z:D.contains k with
      | false=>rfl
      | true =>
       obtain⟨e,he,hx⟩:=(n k _ ho).2 Z
       rcases hx with hx | hx
       .exact absurd hx (l e he).1
       .rw[(l e he).2]at hx;cases hx
     have hE:E1.contains k=false:=by
      rw[xy,ne_eq,wE]
      exact fun hh=>(l k hh).1 rfl
     have:=a7 k (by simpa using m) (by rw[vD];exact Y) (by rw[vD];exact hE);cases j<;>simp only[val,cond_true,cond_false,yJ,xT,this]
    .have e1:vs1[k]?=none:=un (by rw[a1];simpa using Nat.le_of_not_lt m);have e2:vs2[k]?=none:=un (by rw[a2];simpa using Nat.le_of_not_lt m);cases j<;>simp only[val,cond_true,cond_false,yJ,xT,e1,e2]
 .intro j i o ho
  cases j with
  | true=>exact al i o (wV _) ho
  | false=>exact U i o (wV _) ho
 .intro j s' a' k1 k2 k3 k4 k5
  cases j with
  | true=>exact⟨O,s',rfl,k1,k2,by rw[ad];exact k3,k4,by rw[k5];exact a8⟩
  | false=>exact⟨M,s',rfl,k1,k2,by rw[R];exact k3,k4,by rw[k5];show Q .normal M (((s.H::r)[d.length]?).getD []);rw[<-t2];exact a9⟩
 .exact ug (uU _ _) ζ
end
attribute [simp] obl2
end
end
end Go.AM
