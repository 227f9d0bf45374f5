/- JB16: texts Opq, G3, G4, joined and shortened by pack6.py. -/
import Derived.Test.YtnaokiodhoadjaaGreatDoorJB15
set_option linter.all false
set_option maxRecDepth 100000
set_option maxHeartbeats 64000000
open List renaming replicate→tg,nil_append→uL,cons_append→ur,all_cons→vE,any_cons→vi
namespace Go.Proofs.YtnaokiodhoadjaaGreatDoor
section
open Go Go.AM Go.Proofs.Tryz
theorem lP{b:Type}{enc:b->V}{p:b->Prop} : ∀{xs:List V},(∀x∈xs,∃a,x=enc a/\p a)->∃ys:List b,xs=ys.map enc/\∀y∈ys,p y
 | [],_=>⟨[],rfl,ζ⟩
 | x::xs,h=>by
  obtain⟨a,rfl,ha⟩:=h x ζ;obtain⟨ys,rfl,c⟩:=lP (xs:=xs) (fun y c=>h y (by simp[c]));exact⟨a::ys,rfl,fun y hm=>(List.mem_cons.1 hm).elim (fun e=>e▸ha) (c y)⟩
def rS{n Bd:Nat}{ws:List V}(h:ShB T Bd (n+1) 5 ws):∃m:Int,ws=[.int .u8 m]/\0<=m/\m<256:=by
 simp[ShB]at h;obtain⟨m,rfl,hm⟩:=h;refine⟨m,rfl,?_⟩;simp[Lit.wf,IntKind.min,IntKind.max,IntKind.signed,IntKind.bits]at hm;omega
def shq_fld{n Bd t:Nat}{i:TI}{a:Array Field}{sz:Nat}{ws:List V}(h:ShB T Bd (n+1) t ws)(d:T t=some i)(b:i.desc = .struct a)(hs:i.size=sz):ws.length=sz/\∀(k:Nat) f j,a[k]?=some f->T f.type=some j->ShB T Bd n f.type ((ws.drop f.offset).take j.size):=by
 rw[ShB]at h;simp only[d,b]at h;refine⟨by rw[<-hs];exact h.1,fun k f j hk c=>?_⟩;obtain⟨e,h1,h2⟩:=h.2 f (by rw[Array.mem_toList_iff];exact Array.mem_of_getElem? hk);rw[c]at h1;cases h1;exact h2
def shq_lstB{n Bd t e:Nat}{i j:TI}{ws:List V}(h:ShB T Bd (n+1) t ws)(b:T t=some i)(a:i.desc = .slice e)(c:T e=some j):∃xs,ws=[.lst j.size false xs]/\xs.length<=maxLen/\xs.length<=Bd/\∀x∈xs,∃ws,ShB T Bd n e ws/\ws.length=j.size/\x=(if cZ j.desc then .agg ws else ws.headD .undef):=by
 rw[ShB]at h;simp only[b,a,c]at h;exact h
def shq_lst{n Bd t e:Nat}{i j:TI}{ws:List V}(h:ShB T Bd (n+1) t ws)(a:T t=some i)(c:i.desc = .slice e)(d:T e=some j):∃xs,ws=[.lst j.size false xs]/\xs.length<=maxLen/\∀x∈xs,∃ws,ShB T Bd n e ws/\ws.length=j.size/\x=(if cZ j.desc then .agg ws else ws.headD .undef):=by
 obtain⟨xs,h1,h2,_,b⟩:=shq_lstB h a c d;exact⟨xs,h1,h2,b⟩
def shq_u8s{n Bd:Nat}{ws:List V}(h:ShB T Bd (n+2) 107 ws):∃a:List Int,ws=[LU a]/\a.length<=maxLen/\∀c∈a,0<=c/\c<256:=by
 obtain⟨ys,rfl,d,e⟩:=shq_lst h T_107 rfl T_5
 obtain⟨a,rfl,hn⟩:∃a:List Int,ys=a.map encU/\∀c∈a,0<=c/\c<256:=lP fun y b=>by
  obtain⟨ws,hs,_,rfl⟩:=e y b;obtain⟨m,rfl,hm⟩:=rS hs;exact⟨m,by simp[cZ,encU],hm⟩
 exact⟨a,by simp[LU],by simpa using d,hn⟩
def shq_rows{n Bd:Nat}{ws:List V}(h:ShB T Bd (n+3) 22 ws):∃rs:List (List Int),ws=[.lst 1 false (rs.map LU)]/\rs.length<=maxLen/\∀r∈rs,r.length<=maxLen:=by
 obtain⟨xs,rfl,hl,hx⟩:=shq_lst h T_22 rfl T_107
 obtain⟨rs,rfl,hr⟩:∃rs:List (List Int),xs=rs.map LU/\∀r∈rs,r.length<=maxLen:=lP fun x a=>by
  obtain⟨ws,hs,_,rfl⟩:=hx x a;obtain⟨b,rfl,h1,_⟩:=shq_u8s hs;exact⟨b,by simp[cZ],h1⟩
 exact⟨rs,rfl,by simpa using hl,hr⟩
def shq_recipe{n Bd:Nat}{ws:List V}(h:ShB T Bd (n+4) 24 ws):∃r:Rcp,ws=[.int .u8 r.a,.int .u8 r.gap,.lst 1 false (r.rows.map LU)]/\(0<=r.a/\r.a<256)/\0<=r.gap/\r.rows.length<=maxLen/\∀x∈r.rows,x.length<=maxLen:=by
 obtain⟨d,hf⟩:=shq_fld h T_24 rfl rfl
 obtain⟨a,b,c,rfl⟩:∃a b c,ws=[a,b,c]:=by
  match ws,d with
  | [a,b,c],_=>exact⟨a,b,c,rfl⟩
 obtain⟨m,g,p1⟩:=rS (hf 0 _ _ rfl T_5);obtain⟨k,e,q1,l⟩:=rS (hf 1 _ _ rfl T_5);obtain⟨rs,f,j,i⟩:=shq_rows (hf 2 _ _ rfl T_22);simp at g e f;subst g;subst e;subst f;exact⟨⟨m,k,rs⟩,rfl,p1,q1,j,i⟩
def shq_dep{n Bd:Nat}{ws:List V}(h:ShB T Bd (n+2) 111 ws):∃d:Fd,ws=[.int .u8 (d.l:Int),.int .u8 (d.r:Int)]/\d.l<256/\d.r<256:=by
 obtain⟨c,hf⟩:=shq_fld h T_111 rfl rfl
 obtain⟨a,b,rfl⟩:∃a b,ws=[a,b]:=by
  match ws,c with
  | [a,b],_=>exact⟨a,b,rfl⟩
 obtain⟨m,f,p1,i⟩:=rS (hf 0 _ _ rfl T_5);obtain⟨k,e,q1,g⟩:=rS (hf 1 _ _ rfl T_5);simp at f e;subst f;subst e;refine⟨⟨m.toNat,k.toNat⟩,?_,θ,θ⟩;simp[wo p1,wo q1]
def rcp_agg{r:Rcp}{ws:List V}(h:ws=[.int .u8 r.a,.int .u8 r.gap,.lst 1 false (r.rows.map LU)]): .agg ws=mo false r:=by subst h;rfl
def term18(n vars:Int)(t:Tm):aK prog 242 [.int .i64 n,.int .i64 vars,bp t] fun r=>r = .bool (tmB n vars t):=by
 have cv:=valid01 t.x;simp only[aP]at cv;unfold tmB nD;by_cases h0:t.v=0
 .rw[if_pos h0];by_cases h1:t.a=0
  .rw[decide_eq_true h1,uF];refine sPx func242 ?_;simp -dsimp[f242,tg,bp,h0,h1];refine cPx cv ?_;simp -dsimp
  .rw[decide_eq_false h1,uE];refine sPx func242 ?_;simp -dsimp[f242,tg,bp,h0,h1]
 .rw[if_neg h0];by_cases h1:1<=t.v
  .rw[decide_eq_true h1,uF];by_cases h2:t.v<=vars
   .rw[decide_eq_true h2,uF];by_cases b:0<=t.a
    .rw[decide_eq_true b,uF];by_cases c:t.a<n
     .rw[decide_eq_true c,uF];refine sPx func242 ?_;simp -dsimp[f242,tg,bp,h0,h1,h2,b,c,qV]
     .rw[decide_eq_false c,uE];refine sPx func242 ?_;simp -dsimp[f242,tg,bp,h0,h1,h2,b,c]
    .rw[decide_eq_false b,uE];refine sPx func242 ?_;simp -dsimp[f242,tg,bp,h0,h1,h2,b]
   .rw[decide_eq_false h2,uE];refine sPx func242 ?_;simp -dsimp[f242,tg,bp,h0,h1,h2]
  .rw[decide_eq_false h1,uE];refine sPx func242 ?_;simp -dsimp[f242,tg,bp,h0,h1]
def termValid(n vars:Int)(t:Tm):aK prog 202 [.int .i64 n,.int .i64 vars,bp t] fun r=>r = .bool (tmB n vars t):=by
 have cv:=mO t.x;simp only[aP]at cv;unfold tmB nD;by_cases h0:t.v=0
 .rw[if_pos h0];by_cases h1:t.a=0
  .rw[decide_eq_true h1,uF];refine sPx func202 ?_;simp -dsimp[f202,tg,bp,h0,h1];refine cPx cv ?_;simp -dsimp
  .rw[decide_eq_false h1,uE];refine sPx func202 ?_;simp -dsimp[f202,tg,bp,h0,h1]
 .rw[if_neg h0];by_cases h1:1<=t.v
  .rw[decide_eq_true h1,uF]
   have b:0<t.v:=by omega
   by_cases h2:t.v<=vars
   .rw[decide_eq_true h2,uF];by_cases c:0<=t.a
    .rw[decide_eq_true c,uF];by_cases d:t.a<n
     .rw[decide_eq_true d,uF];refine sPx func202 ?_;simp -dsimp[f202,tg,bp,h0,b,h2,c,d,qV]
     .rw[decide_eq_false d,uE];refine sPx func202 ?_;simp -dsimp[f202,tg,bp,h0,b,h2,c,d]
    .rw[decide_eq_false c,uE];refine sPx func202 ?_;simp -dsimp[f202,tg,bp,h0,b,h2,c]
   .rw[decide_eq_false h2,uE];refine sPx func202 ?_;simp -dsimp[f202,tg,bp,h0,b,h2]
  .rw[decide_eq_false h1,uE];refine sPx func202 ?_;simp -dsimp[f202,tg,bp,h0,(ω:¬0<t.v)]
def eu{P:Program}{f:FuncId}{args:List V}{H Hf:List B}{v:V}(h:ak P f args H fun r H'=>r=v/\∃G,H'=Hf++G)(hr:rb Hf.length v)(hb:H.length<=Hf.length/\∀bl∈Hf,rbB Hf.length bl):ak P f args H fun r H'=>r=v/\H'=Hf:=by
 refine(lg (σ:=Unit) (ok:=fun _=>True) (rf:=fun _=>v) (Hf:=fun _=>Hf) (h.mono fun r H' ⟨a,G,b⟩=>⟨(),trivial,a,G,b⟩) (fun _ _=>hb.1) (fun _ _=>hr) (fun _ _=>hb.2)).mono ?_;rintro r H' ⟨_,_,a,b⟩;exact⟨a,b⟩
def valid18(n:Int)(d:Dn)(f:Bool)(hl:d.atoms.length<=1000000):aK prog 194 [.int .i64 n,am f d] fun r=>r = .bool (dnB n d):=by
 unfold dnB;by_cases h1:1<=d.vars
 .rw[decide_eq_true h1,uF];by_cases h2:d.vars<=3
  .rw[decide_eq_true h2,uF];by_cases k:d.atoms.length<=20
   .rw[decide_eq_true k,uF];obtain⟨E,o⟩:=ξ (d.atoms.all (atB n d.vars));rw[<-o];refine sPx func194 ?_;simp -dsimp[f194,tg,am,LA,(ω:¬d.vars<1),(ω:¬3<d.vars),(ω:¬(20:Int)<d.atoms.length)];refine aI (W_loopM 59 0x7ffffffffe00070 zMx (σ:=Nat) (fun i=>(d.atoms.drop i).all (atB n d.vars)=E) (fun i=>d.atoms.length-i) (fun i=>[(5,.int .i64 i)]) (fun _=>[B.cells [.int .i64 d.vars,.lst 11 f (d.atoms.map aw)]]) 0 (by rw[o,uG]) ζ ζ ζ ?_);intro i hx N Q p c;by_cases hb:i<d.atoms.length
    .rw[th hb,vE]at hx;obtain⟨a,ha⟩:=ξ (d.atoms[i]);rw[<-ha]at hx;have b:=term18 n d.vars a.l;have g:=term18 n d.vars a.r;simp only[bp]at b g;by_cases e:a.op<1
     .rw[show atB n d.vars a=false by unfold atB;rw[decide_eq_false ω];rfl,uE]at hx;refine wx ?_;simp -dsimp[hb,ha.symm,aw,e];apply c;simp -dsimp;rw[<-hx]<;>simp
     .by_cases h:4<a.op
      .rw[show atB n d.vars a=false by unfold atB;rw[decide_eq_true ω,decide_eq_false ω];rfl,uE]at hx;refine wx ?_;simp -dsimp[hb,ha.symm,aw,e,h];apply c;simp -dsimp;rw[<-hx]<;>simp
      .have j:atB n d.vars a=(tmB n d.vars a.l&&tmB n d.vars a.r):=by unfold atB;rw[decide_eq_true ω,decide_eq_true ω];rfl
       rw[j]at hx
       cases q1:tmB n d.vars a.l with
       | false =>
        rw[q1]at b hx;refine wx ?_;simp -dsimp[hb,ha.symm,aw,e,h];refine cPx b ?_;simp -dsimp;apply c;simp -dsimp;rw[<-hx]<;>simp
       | true =>
        rw[q1]at b hx
        cases m:tmB n d.vars a.r with
        | false =>
         rw[m]at g hx;refine wx ?_;simp -dsimp[hb,ha.symm,aw,e,h];refine cPx b ?_;simp -dsimp;refine cPx g ?_;simp -dsimp;apply c;simp -dsimp;rw[<-hx]<;>simp
        | true =>
         rw[m]at g hx;refine wx ?_;simp -dsimp[hb,ha.symm,aw,e,h];refine cPx b ?_;simp -dsimp;refine cPx g ?_;simp -dsimp[aE i ω];refine p (i+1) _ _ hx ω ζ ⟨_,rfl⟩ ζ ζ
    .rw[tj ω]at hx;refine wx ?_;simp -dsimp[hb];apply c;simp -dsimp;simpa using hx
   .rw[decide_eq_false k,uE];refine sPx func194 ?_;simp -dsimp[f194,tg,am,LA,(ω:¬d.vars<1),(ω:¬3<d.vars),(ω:(20:Int)<d.atoms.length)]
  .rw[decide_eq_false h2,uE];refine sPx func194 ?_;simp -dsimp[f194,tg,am,LA,(ω:¬d.vars<1),(ω:3<d.vars)]
 .rw[decide_eq_false h1,uE];refine sPx func194 ?_;simp -dsimp[f194,tg,am,LA,(ω:d.vars<1)]
def atom_no(n:Int)(d:Dn)(f:Bool)(a:At):∀H:List B,H=[B.cells [.int .i64 n],B.cells [.int .i64 d.vars,LA f d.atoms]]->aM prog (.fn 201 [.ptr 0 0,.ptr 1 0]) [aw a] H fun r H'=>r = .bool (!atB n d.vars a)/\H'=H:=by
 intro H h;have b:=termValid n d.vars a.l;have i:=termValid n d.vars a.r;simp only[bp]at b i;simp only[aM,ur,uL];refine eu ?_ (by simp[rb,rb1]) (by subst h;simp[LA]);subst h;simp only[LA];by_cases c:a.op<1
 .rw[show atB n d.vars a=false by unfold atB;rw[decide_eq_false ω];rfl];refine aH tok func201 rfl rfl ?_;refine wx ?_;simp -dsimp[f201,tg,aw,LA,c]
 by_cases g:4<a.op
 .rw[show atB n d.vars a=false by unfold atB;rw[decide_eq_true ω,decide_eq_false ω];rfl];refine aH tok func201 rfl rfl ?_;refine wx ?_;simp -dsimp[f201,tg,aw,LA,c,g]
 have e:atB n d.vars a=(tmB n d.vars a.l&&tmB n d.vars a.r):=by unfold atB;rw[decide_eq_true ω,decide_eq_true ω];rfl
 rw[e]
 cases q1:tmB n d.vars a.l with
 | false =>
  rw[q1]at b;refine aH tok func201 rfl rfl ?_;refine wx ?_;simp -dsimp[f201,tg,aw,LA,c,g];refine cPx b ?_;simp -dsimp
 | true =>
  rw[q1]at b;refine aH tok func201 rfl rfl ?_;refine wx ?_;simp -dsimp[f201,tg,aw,LA,c,g];refine cPx b ?_;simp -dsimp;refine cPx i ?_;simp -dsimp
def oY{b:Type}(p:b->Bool)(l:List b):(!l.any fun a=>!p a)=l.all p:=by
 induction l with
 | nil=>rfl
 | cons a l c=>rw[vi,vE,<-c];cases p a<;>simp
def validD_u(n:Int)(d:Dn)(f:Bool)(hl:d.atoms.length<=1000000):aK prog 149 [.int .i64 n,am f d] fun r=>r = .bool (dnB n d):=by
 unfold dnB;by_cases h1:1<=d.vars
 case neg =>
  rw[decide_eq_false h1,uE];refine sPx func149 ?_;simp -dsimp[f149,tg,am,LA,(ω:d.vars<1)]
 rw[decide_eq_true h1,uF];by_cases h2:d.vars<=3
 case neg =>
  rw[decide_eq_false h2,uE];refine sPx func149 ?_;simp -dsimp[f149,tg,am,LA,(ω:¬d.vars<1),(ω:3<d.vars)]
 rw[decide_eq_true h2,uF];by_cases b:d.atoms.length<=20
 case neg =>
  rw[decide_eq_false b,uE];refine sPx func149 ?_;simp -dsimp[f149,tg,am,LA,(ω:¬d.vars<1),(ω:¬3<d.vars),(ω:(20:Int)<d.atoms.length)]
 rw[decide_eq_true b,uF,<-oY];have c:=cont_A [B.cells [.int .i64 n],B.cells [.int .i64 d.vars,LA f d.atoms]] (.fn 201 [.ptr 0 0,.ptr 1 0]) (fun a=>!atB n d.vars a) d.atoms f hl (by simp[LA]) ζ (fun m _=>atom_no n d f m _ rfl);simp only[LA]at c;refine sPx func149 ?_;simp -dsimp[f149,tg,am,LA,(ω:¬d.vars<1),(ω:¬3<d.vars),(ω:¬(20:Int)<d.atoms.length)];refine aM.mono (K:=fun r H'=>r = .bool (d.atoms.any fun a=>!atB n d.vars a)/\H'=[B.cells [.int .i64 n],B.cells [.int .i64 d.vars,.lst 11 f (d.atoms.map aw)]]) c ?_;rintro r H' ⟨rfl,rfl⟩;simp -dsimp
def TmOk(rs:List Rw)(t:Tm):Prop:=t.v=0\/∃(k a:Nat) (hk:k<rs.length),t.v=(k:Int)+1/\t.a=(a:Int)/\a<rs[k].vals.length
def tmV_at{rs:List Rw}{t:Tm}{k a:Nat}(hk:k<rs.length)(h1:t.v=(k:Int)+1)(h2:t.a=(a:Int))(b:a<rs[k].vals.length):tmV rs t=rs[k].vals[a]:=by
 unfold tmV;rw[if_neg ω,h1,h2]
 have d:((k:Int)+1-1).toNat=k:=by omega
 have c:((a:Int)).toNat=a:=by omega
 rw[d,c];simp[hk,b]
def wrapM(k:Nat)(h:k<9223372036854775806):IntKind.i64.wrap ((k:Int)+1-1)=(k:Int):=by rw[wrap64 ω ω];omega
def of18(t:Tm)(rs:List Rw)(f:Bool)(h:TmOk rs t)(hl:rs.length<=1000000):aK prog 243 [bp t,LR f rs] fun r=>r=aP (tmV rs t):=by
 rcases h with h | ⟨k,a,hk,h1,h2,b⟩
 .have ht:tmV rs t=t.x:=by simp[tmV,h]
  rw[ht];refine sPx func243 ?_;simp -dsimp[f243,tg,bp,h,aP]
 .have ht:=tmV_at hk h1 h2 b;obtain⟨r,hr⟩:=ξ (rs[k]);simp only[<-hr]at ht b;obtain⟨v,hv⟩:=ξ (r.vals[a]);rw[ht,<-hv];refine sPx func243 ?_;simp -dsimp[f243,tg,bp,LR,LV,aF,aP,h1,h2,(ω:¬(k:Int)+1=0),hk,hr.symm,b,hv.symm,wrapM k ω,bA k ω];refine aI (ae tok mixed [11] [] [] υ fun C K d c=>?_);simp -implicitDefEqProofs [bp,LR,LV,aF,aP,h1,h2,hk,hr.symm,b,hv.symm,wrapM k ω,bA k ω];apply c;simp -dsimp;rfl
def get_u(t:Tm)(rs:List Rw)(f:Bool)(h:TmOk rs t)(hl:rs.length<=1000000):aK prog 270 [LR f rs,bp t] fun r=>r=aP (tmV rs t):=by
 rcases h with h | ⟨k,a,hk,h1,h2,b⟩
 .have ht:tmV rs t=t.x:=by simp[tmV,h]
  rw[ht];refine sPx func270 ?_;simp -dsimp[f270,tg,bp,h,aP]
 .have ht:=tmV_at hk h1 h2 b;obtain⟨r,hr⟩:=ξ (rs[k]);simp only[<-hr]at ht b;obtain⟨v,hv⟩:=ξ (r.vals[a]);rw[ht,<-hv];refine sPx func270 ?_;simp -dsimp[f270,tg,bp,LR,LV,aF,aP,h1,h2,(ω:¬(k:Int)+1=0),hk,hr.symm,b,hv.symm,wrapM k ω,bA k ω];refine aI (ae tok mixed [11] [] [] υ fun C K d c=>?_);simp -implicitDefEqProofs [bp,LR,LV,aF,aP,h1,h2,hk,hr.symm,b,hv.symm,wrapM k ω,bA k ω];apply c;simp -dsimp;rfl
structure AtOk (rs:List Rw) (a:At):Prop where
 l:TmOk rs a.l
 r:TmOk rs a.r
 lo:1<=a.op
 hi:a.op<=4
 sz:(tmV rs a.l).s.size<=maxLen
def sat18(a:At)(rs:List Rw)(f:Bool)(h:AtOk rs a)(hl:rs.length<=1000000):aK prog 195 [aw a,LR f rs] fun r=>r = .bool (atS rs a):=by
 have g:=of18 a.l rs f h.l hl;have i:=of18 a.r rs f h.r hl;have e:=gI (tmV rs a.l) (tmV rs a.r) h.sz;simp only[bp,aP]at g i e;have h1:=h.lo;have h2:=h.hi;obtain⟨q,hq⟩:=ξ (dt (tmV rs a.l) (tmV rs a.r));unfold atS;rw[<-hq]at e ⊢;by_cases d:a.op=1
 .rw[if_pos d];refine sPx func195 ?_;simp -dsimp[f195,tg,aw,d];refine sTx ?_;refine cQx g ?_;simp -dsimp;refine cQx i ?_;simp -dsimp;refine cQx e ?_;simp -dsimp
  try rfl
 rw[if_neg d];by_cases b:a.op=2
 .rw[if_pos b];refine sPx func195 ?_;simp -dsimp[f195,tg,aw,b];refine sTx ?_;refine cQx g ?_;simp -dsimp;refine cQx i ?_;simp -dsimp;refine cQx e ?_;simp -dsimp
  try rfl
 rw[if_neg b];by_cases c:a.op=3
 .rw[if_pos c];refine sPx func195 ?_;simp -dsimp[f195,tg,aw,c];refine sTx ?_;refine cQx g ?_;simp -dsimp;refine cQx i ?_;simp -dsimp;refine cQx e ?_;simp -dsimp
 rw[if_neg c];refine sPx func195 ?_;simp -dsimp[f195,tg,aw,d,b,c];refine sTx ?_;refine cQx g ?_;simp -dsimp[d,b,c];refine cQx i ?_;simp -dsimp[d,b,c];refine cQx e ?_;simp -dsimp[d,b,c]
def all18(d:Dn)(rs:List Rw)(f g:Bool)(h:∀a∈d.atoms,AtOk rs a)(hl:rs.length<=1000000)(ha:d.atoms.length<=1000000):aK prog 141 [am f d,LR g rs] fun r=>r = .bool (oZ d rs):=by
 obtain⟨E,e⟩:=ξ (oZ d rs);rw[<-e];unfold oZ at e;refine sPx func141 ?_;simp -dsimp[f141,tg,am,LA,LR];refine aI (W_loopM 21 0x1ffff0 zMx (σ:=Nat) (fun i=>(d.atoms.drop i).all (atS rs)=E) (fun i=>d.atoms.length-i) (fun i=>[(5,.int .i64 i)]) (fun _=>[B.cells [.int .i64 d.vars,.lst 11 f (d.atoms.map aw)]]) 0 (by rw[e,uG]) ζ ζ ζ ?_);intro i hx N Q k j;by_cases hb:i<d.atoms.length
 .rw[th hb,vE]at hx;have hk:=h _ (ti hb);obtain⟨a,b⟩:=ξ (d.atoms[i]);rw[<-b]at hx hk;have c:=sat18 a rs g hk hl;simp only[aw,LR]at c
  cases q:atS rs a with
  | false =>
   rw[q]at c hx;refine wx ?_;simp -dsimp[hb,b.symm,aw];refine cPx c ?_;simp -dsimp;apply j;simp -dsimp;simpa using hx
  | true =>
   rw[q]at c hx;refine wx ?_;simp -dsimp[hb,b.symm,aw];refine cPx c ?_;simp -dsimp[aE i ω];refine k (i+1) _ _ (by simpa using hx) ω ζ ⟨_,rfl⟩ ζ ζ
 .rw[tj ω]at hx;refine wx ?_;simp -dsimp[hb];apply j;simp -dsimp;simpa using hx
end
end Go.Proofs.YtnaokiodhoadjaaGreatDoor
