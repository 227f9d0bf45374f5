/- JG11: own texts of this seat, joined and shortened by pack4.py: Cf, Pw, Fa, Kt, Ku, Kp, Pf, Fb, Fc, Ln, Rd, Nu0, C3, Ky, Sz, Pg, Kv, Ka, Ga, C4a, C4b. -/
import Derived.Test.YtdhgchekdkjcpaaGreatDoorJG8
import Derived.Test.YtdhgchekdkjcpaaGreatDoorJG10
set_option linter.unusedVariables false
set_option linter.unusedSimpArgs false
set_option maxRecDepth 100000
set_option maxHeartbeats 64000000
open Array renaming getElem?_append→lT
open Bool renaming and_eq_true→kb
open ByteArray renaming empty→aX
open List renaming replicate→kQ,getElem?_eq_getElem→kR,mem_of_getElem?→kS,length_append→kT,take_of_length_le→kV,getElem_mem→kW,length_cons→kZ,cons_append→kf,length_take→kg,map_cons→kj,getElem?_map→ko,append_nil→kp,length_nil→kq,count_le_length→kw,mem_cons_self→lB,map_append→lC,map_nil→lD,mem_cons_of_mem→lE,length_map→lG,all_eq_true→lJ,intercalate→lK,intersperse→lL,foldl_cons→lU,append_assoc→lV,mem_of_mem_drop→la,mem_of_mem_take→lb,map_congr_left→lg,take→lh,take_append_drop→lp,map_take→mV,map_map→mY
open Nat renaming le_refl→kY,mul_le_mul_right→ka,add_mul→kh,le_trans→lM
open Option renaming map_some→kv,map_eq_some_iff→kx,getD_some→lx
namespace Go.Proofs.YtdhgchekdkjcpaaGreatDoor
section
open Go Go.AM Go.Lib
structure Cel where
 id:Int
 a:Int
structure Csh where
 e:Int
 a:Int
structure Cnd where
 v:Int
 l:List Csh
structure Cpr where
 s:Nat
 a:Int
 b:Int
structure Cst where
 r:Int
 f:List Int
 d:Fd
structure Cert where
 k:Int
 del:List Int
 w:Int
 prf:List Cnd
 cells:List Cel
 t:Tb
 cores:List (List Cel)
 upr:List Cnd
 sets:List Nat
 prs:List Cpr
 steps:List Cst
 g:Fd
def aK(x:Cel):V:=.agg [.int .i64 x.id,.int .i64 x.a]
def aN(x:Csh):V:=.agg [.int .i64 x.e,.int .i64 x.a]
def ag(l:List Csh):V:=.lst 2 false (l.map aN)
def aE(x:Cnd):V:=.agg [.int .i64 x.v,ag x.l]
def aJ(l:List Cel):V:=.lst 2 false (l.map aK)
def aQ(x:Cpr):V:=.agg [.int .u32 (x.s:Int),.int .i64 x.a,.int .i64 x.b]
def aL(x:Cst):V:=.agg [.int .i64 x.r,.lst 1 false (x.f.map aD),.int .u32 (x.d.l:Int),.int .u32 (x.d.r:Int)]
def ax(n:Nat):V:=.int .u32 (n:Int)
def aZ(l:List Cnd):V:=.lst 2 false (l.map aE)
def aI(c:Cert):List V:=[.int .i64 c.k,.lst 1 false (c.del.map aD),.int .i64 c.w,aZ c.prf,aJ c.cells,.str c.t.name,.lst 1 false (c.t.attrs.map V.str),.lst 2 false (c.t.rows.map kB),.lst 1 false (c.cores.map aJ),aZ c.upr,.lst 1 false (c.sets.map ax),.lst 3 false (c.prs.map aQ),.lst 4 false (c.steps.map aL),.int .u32 (c.g.l:Int),.int .u32 (c.g.r:Int)]
def aU(c:Cert):V:=.agg (aI c)
@[simp] theorem encCel_pure (x:Cel):AM.Pure (aK x):=by simp[aK]
@[simp] theorem encCel_oneV (x:Cel):fq (aK x)=true:=rfl
@[simp] theorem encCsh_pure (x:Csh):AM.Pure (aN x):=by simp[aN]
@[simp] theorem encCsh_oneV (x:Csh):fq (aN x)=true:=rfl
@[simp] theorem LCsh_pure (l:List Csh):AM.Pure (ag l):=by simp[ag]
@[simp] theorem encCnd_pure (x:Cnd):AM.Pure (aE x):=by simp[aE]
@[simp] theorem encCnd_oneV (x:Cnd):fq (aE x)=true:=rfl
@[simp] theorem LCel_pure (l:List Cel):AM.Pure (aJ l):=by simp[aJ]
@[simp] theorem LCel_oneV (l:List Cel):fq (aJ l)=true:=rfl
@[simp] theorem encCpr_pure (x:Cpr):AM.Pure (aQ x):=by simp[aQ]
@[simp] theorem encCpr_oneV (x:Cpr):fq (aQ x)=true:=rfl
@[simp] theorem encCst_pure (x:Cst):AM.Pure (aL x):=by simp[aL]
@[simp] theorem encCst_oneV (x:Cst):fq (aL x)=true:=rfl
@[simp] theorem encS_pure (x:Nat):AM.Pure (ax x):=by simp[ax]
@[simp] theorem encS_oneV (x:Nat):fq (ax x)=true:=rfl
@[simp] theorem LCnd_pure (l:List Cnd):AM.Pure (aZ l):=by simp[aZ]
@[simp] theorem encCert_pure (c:Cert):AM.Pure (aU c):=by simp[aU,aI]
def bs(l:List UInt8):ByteArray:=⟨l.toArray⟩
theorem cy(l:List UInt8):(bs l).data.toList=l:=by simp[bs]
theorem dO(b:ByteArray):bs b.data.toList=b:=by simp[bs]
theorem kF(l m:List UInt8):bs l++bs m=bs (l++m):=by
 have:(bs l++bs m).data.toList=(bs (l++m)).data.toList:=by rw[ByteArray.data_append];simp[bs]
 rw[←dO (bs l++bs m),this,cy]
theorem aM(l:List UInt8):(bs l).size=l.length:=by simp[bs,ByteArray.size]
def du(ns:List Int):List UInt8:=ns.flatMap fun n=>32::itoa n
def aG(w:List UInt8)(ns:List Int):List UInt8:=w++du ns
theorem numT_snoc(ns:List Int)(n:Int):du (ns++[n])=du ns++32::itoa n:=by simp[du]
def dM:List UInt8:=[100,101,108,101,116,101,115]
def bR:List UInt8:=[114,111,119]
def au:List UInt8:=[110,111,100,101]
def bc:List UInt8:=[108,101,97,102]
def dG:List UInt8:=[99,104,97,110,103,101,115]
def ao:List UInt8:=[99,101,108,108]
def al:List UInt8:=[99,111,114,101]
def cC:List UInt8:=[107,101,121,115]
def bT:List UInt8:=[115,101,116]
def ar:List UInt8:=[112,97,105,114]
def bD:List UInt8:=[112,114,111,111,102]
def bB:List UInt8:=[115,116,101,112]
def aT:List UInt8:=[101,110,100]
def az(l:List Cel):List Int:=l.flatMap fun x=>[x.id,x.a]
def shN(l:List Csh):List Int:=l.flatMap fun x=>[x.e,x.a]
def cL(x:Cnd):Bool:=decide (x.v = -1)||(decide (0≤x.v)&&x.l.isEmpty)
def ndL(x:Cnd):List UInt8:=if x.v = -1 then aG bc (shN x.l) else aG au [x.v]
def cp:List Cnd→List Cnd
 | []=>[]
 | x::l=>if cL x=true then x::cp l else []
def stN(s:Cst):List Int:=[s.r,(s.d.l:Int),(s.d.r:Int)]++s.f
def am(c:Cert):List (List UInt8):=
 if c.k=1 then aG dM [c.w]::c.del.map fun i=>aG bR [i]
 else if c.k=2 then aG dG []::((c.cells.map fun x=>aG ao (az [x]))++c.cores.map fun l=>aG al (az l))
 else if c.k=3 then aG cC []::((c.sets.map fun(s:Nat)=>aG bT [(s:Int)])++c.prs.map fun p=>aG ar [(p.s:Int),p.a,p.b])
 else if c.k=4 then aG bD [(c.g.l:Int),(c.g.r:Int)]::c.steps.map fun s=>aG bB (stN s)
 else []
def bE(c:Cert):List Cnd:=if c.k=1 then c.prf else if c.k=2 then c.upr else []
def okC(c:Cert):Bool:=decide (1≤c.k∧c.k≤4)&&(bE c).all cL
def ak(c:Cert):List (List UInt8):=am c++(bE c).map ndL++[aT]
def lnT(ls:List (List UInt8)):List UInt8:=ls.flatMap fun l=>l++[10]
theorem jm:∀(ls:List (List UInt8)),ls≠[]→[10].intercalate ls++[10]=lnT ls
 | [],h=>absurd rfl h
 | [x],_=>by simp[lnT,lK,lL]
 | x::y::r,_=>by
  have ih:=jm (y::r) (by simp)
  have e:([10]:List UInt8).intercalate (x::y::r)=x++10::[10].intercalate (y::r):=by simp[lK,lL]
  rw[e,lV,kf,ih];simp[lnT]
def ft(c:Cert):Int:=if okC c=true then(if(lnT (ak c)).length≤65536 then 0 else 3) else 1
def dv(c:Cert):List UInt8:=if ft c=0 then lnT (ak c) else []
theorem parse_in{l:List UInt8}{v:Int}(h:parseIntB 64 l = .ok v):inI v:=by
 unfold parseIntB at h
 cases l with
 | nil=>cases h
 | cons c r =>
  simp only at h;split at h
  ·cases h
  ·cases h
  ·rw[p63]at h;split at h
   ·cases h
   ·split at h
    ·cases h
    ·rename_i h1 h2;cases h;unfold inI;by_cases hc:c.toNat=45
     ·simp only[hc,not_true_eq_false,false_and,not_false_eq_true,true_and,if_true]at h1 h2 ⊢;omega
     ·simp only[hc,not_false_eq_true,true_and,if_false]at h1 ⊢;omega
theorem numP_R(l:List UInt8):numP l=bQ l:=num_same l fun _ h=>parse_in h
theorem itoa_mem{n:Int}{c:UInt8}(h:c∈itoa n):c=45∨cE c:=by
 unfold itoa at h;split at h
 ·rcases List.mem_cons.1 h with h | h
  ·exact .inl h
  ·exact .inr (gS _ _ h)
 ·exact .inr (gS _ _ h)
theorem itoa_no32(n:Int):(32:UInt8)∉itoa n:=fun h=>by
 rcases itoa_mem h with h | h
 ·cases h
 ·unfold cE at h;simp at h
theorem itoa_no10(n:Int):(10:UInt8)∉itoa n:=fun h=>by
 rcases itoa_mem h with h | h
 ·cases h
 ·unfold cE at h;simp at h
def fu:List (List UInt8)→Option (List Int)
 | []=>some []
 | w::r=>match bQ w with
  | none=>none
  | some n=>match fu r with
   | none=>none
   | some ns=>some (n::ns)
theorem jf:∀(ns:List Int),(∀n∈ns,inI n)→fu (ns.map itoa)=some ns
 | [],_=>rfl
 | n::ns,h=>by
  rw[kj,fu,fH.2 ⟨rfl,h n lB⟩,jf ns (fun x hx=>h x (lE _ hx))]
theorem jd:∀(ws:List (List UInt8)) (ns:List Int),fu ws=some ns→ws=ns.map itoa∧∀n∈ns,inI n
 | [],ns,h=>by cases h;exact⟨rfl,by simp⟩
 | w::r,ns,h=>by
  rw[fu]at h;split at h
  ·cases h
  ·rename_i n hn;split at h
   ·cases h
   ·rename_i m hm;cases h;obtain⟨e1,e2⟩:=jd r m hm;obtain⟨f1,f2⟩:=fH.1 hn
    exact⟨by rw[kj,f1,e1],fun x hx=>by
     rcases List.mem_cons.1 hx with rfl | hx
     ·exact f2
     ·exact e2 x hx⟩
def rdL(l:List UInt8):Option (List UInt8×List Int):=match spl 32 l with
 | []=>none
 | w::r=>match fu r with
  | none=>none
  | some ns=>some (w,ns)
theorem line_join(w:List UInt8)(ns:List Int):[32].intercalate (w::ns.map itoa)=aG w ns:=by
 induction ns generalizing w with
 | nil=>simp[aG,du,lK,lL]
 | cons n ns ih =>
  have e:([32]:List UInt8).intercalate (w::itoa n::ns.map itoa)=w++32::[32].intercalate (itoa n::ns.map itoa):=by simp[lK,lL]
  rw[kj,e,ih (itoa n)];simp[aG,du]
theorem jG(w:List UInt8)(ns:List Int)(hw:(32:UInt8)∉w)(hn:∀n∈ns,inI n):rdL (aG w ns)=some (w,ns):=by
 have:spl 32 (aG w ns)=w::ns.map itoa:=by
  rw[←line_join]
  exact spl_join 32 _ (by simp) (fun p hp=>by
   rcases List.mem_cons.1 hp with rfl | hp
   ·exact hw
   ·obtain⟨n,_,rfl⟩:=List.mem_map.1 hp
    exact itoa_no32 n)
 unfold rdL;rw[this];simp only;rw[jf ns hn]
theorem rd_inv{l w:List UInt8}{ns:List Int}(h:rdL l=some (w,ns)):l=aG w ns∧∀n∈ns,inI n:=by
 unfold rdL at h;split at h
 ·cases h
 ·rename_i w' r hs;split at h
  ·cases h
  ·rename_i m hm;cases h;obtain⟨e1,e2⟩:=jd _ _ hm;refine⟨?_,e2⟩;rw[←line_join,←e1,←hs,join_spl]
theorem line_no10(w:List UInt8)(ns:List Int)(hw:(10:UInt8)∉w):(10:UInt8)∉aG w ns:=by
 unfold aG du;intro h
 rcases List.mem_append.1 h with h | h
 ·exact hw h
 ·obtain⟨n,_,h⟩:=List.mem_flatMap.1 h
  rcases List.mem_cons.1 h with h | h
  ·cases h
  ·exact itoa_no10 n h
def isS(n:Int):Prop:=0≤n∧n<4294967296
instance (n:Int):Decidable (isS n):=by unfold isS;infer_instance
def gN(ns:List Int)(i:Nat):Int:=ns.getD i 0
def iW:List Int→List Cel
 | a::b::r=>⟨a,b⟩::iW r
 | _=>[]
def shP:List Int→List Csh
 | a::b::r=>⟨a,b⟩::shP r
 | _=>[]
def tb0:Tb:=⟨aX,[],[]⟩
def aF:Cert:=⟨0,[],0,[],[],tb0,[],[],[],[],[],⟨0,0⟩⟩
def ac(w:List UInt8)(ns:List Int):Option Cert :=
 if w=dM∧ns.length=1 then some { aF with k:=1,w:=gN ns 0 }
 else if w=dG∧ns.length=0 then some { aF with k:=2 }
 else if w=cC∧ns.length=0 then some { aF with k:=3 }
 else if w=bD∧ns.length=2∧isS (gN ns 0)∧isS (gN ns 1) then some { aF with k:=4,g:=⟨(gN ns 0).toNat,(gN ns 1).toNat⟩ }
 else none
def aW(w:List UInt8)(ns:List Int):Option Cnd :=
 if w=au∧ns.length=1∧0≤gN ns 0 then some ⟨gN ns 0,[]⟩
 else if w=bc∧ns.length % 2=0 then some ⟨-1,shP ns⟩
 else none
def ad(c:Cert)(st:Nat)(w:List UInt8)(ns:List Int):Option (Cert×Nat):=
 if c.k=1∧w=bR∧st=0∧ns.length=1 then some ({ c with del:=c.del++[gN ns 0] },0)
 else if c.k=2∧w=ao∧st=0∧ns.length=2 then some ({ c with cells:=c.cells++[⟨gN ns 0,gN ns 1⟩] },0)
 else if c.k=2∧w=al∧st≤1∧ns.length % 2=0 then some ({ c with cores:=c.cores++[iW ns] },1)
 else if c.k=3∧w=bT∧st=0∧ns.length=1∧isS (gN ns 0) then some ({ c with sets:=c.sets++[(gN ns 0).toNat] },0)
 else if c.k=3∧w=ar∧ns.length=3∧isS (gN ns 0) then some ({ c with prs:=c.prs++[⟨(gN ns 0).toNat,gN ns 1,gN ns 2⟩] },1)
 else if c.k=4∧w=bB∧3≤ns.length∧isS (gN ns 1)∧isS (gN ns 2) then some ({ c with steps:=c.steps++[⟨gN ns 0,ns.drop 3,⟨(gN ns 1).toNat,(gN ns 2).toNat⟩⟩] },0)
 else match aW w ns with
  | none=>none
  | some n=>if c.k=1 then some ({ c with prf:=c.prf++[n] },2) else if c.k=2 then some ({ c with upr:=c.upr++[n] },2) else none
def goC:Nat→Cert→Nat→List (List UInt8)→Option Cert×Nat
 | i,_,_,[]=>(none,i)
 | i,_,_,[_]=>(none,i+1)
 | i,c,st,x::y::r=>match rdL x with
  | none=>(none,i+1)
  | some (w,ns)=>
   if 0<i∧w=aT∧ns.length=0 then(if r=[]∧y=[] then(some c,0) else(none,i+2))
   else match (if i=0 then(ac w ns).map (fun c=>(c,0)) else ad c st w ns) with
    | none=>(none,i+1)
    | some (c',st')=>goC (i+1) c' st' (y::r)
def bG(s:List UInt8):Option Cert×Nat:=goC 0 aF 0 (spl 10 s)
def okR(c:Cert):Prop :=
 (∀i∈c.del,inI i)∧inI c.w∧(∀x∈c.prf,inI x.v∧∀s∈x.l,inI s.e∧inI s.a)∧(∀x∈c.cells,inI x.id∧inI x.a)∧(∀l∈c.cores,∀x∈l,inI x.id∧inI x.a)∧(∀x∈c.upr,inI x.v∧∀s∈x.l,inI s.e∧inI s.a)∧(∀s∈c.sets,s<4294967296)∧(∀p∈c.prs,p.s<4294967296∧inI p.a∧inI p.b)∧(∀s∈c.steps,inI s.r∧(∀i∈s.f,inI i)∧s.d.l<4294967296∧s.d.r<4294967296)∧c.g.l<4294967296∧c.g.r<4294967296
theorem aC(a:Array UInt8):ByteArray.mk a=bs a.toList:=rfl
theorem dec_len20{u:Nat}(h:u≤9223372036854775808):(decDigits u).length≤19:=iS h
theorem itoa_len{n:Int}(h:inI n):(itoa n).length≤20:=by
 obtain⟨h0,h1⟩:=h;unfold itoa;split
 ·have:=dec_len20 (u:=n.natAbs) (by omega);simp;omega
 ·have:=dec_len20 (u:=n.toNat) (by omega);omega
theorem gh:∀(ns:List Int),(∀n∈ns,inI n)→(du ns).length≤21*ns.length
 | [],_=>by simp[du]
 | n::ns,h=>by
  have h1:=itoa_len (h n lB);have h2:=gh ns (fun x hx=>h x (lE _ hx));have:du (n::ns)=(32::itoa n)++du ns:=rfl;rw[this];simp;omega
theorem lineT_snoc(w:List UInt8)(ns:List Int)(n:Int):aG w (ns++[n])=aG w ns++32::itoa n:=by
 unfold aG;rw[numT_snoc,lV]
theorem ap{α:Type}(l:List α){i:Nat}(h:i<l.length):l.take (i+1)=l.take i++[l[i]]:=by
 rw[List.take_add_one,kR h];rfl
theorem vals2{a b:V}{vals:Array Value}(h:vals.size=[a,b].length):∃v0 v1,vals = #[v0,v1]:=by
 obtain⟨l⟩:=vals
 match l,h with
 | [a,b],_=>exact⟨a,b,rfl⟩
theorem jF{s:AM.St}{k:IntKind}{n:Int}{u:Value}(h:Rel s (.int k n) u):u = .int k n:=by cases h;rfl
theorem gc{s:AM.St}{x:ByteArray}{u:Value}(h:Rel s (.str x) u):u = .string x:=by cases h;rfl
theorem below_grow(w:World)(k:Nat)(os:Array Obj):Go.RowKit.Below w.heap.size w (Go.Sort.grow (w.drewN k) os):=⟨rfl,rfl,rfl,by simp[Go.Sort.grow,World.drewN],fun b hb=>by simp[Go.Sort.grow,World.drewN,lT,hb]⟩
theorem below_alloc(w:World)(o:Obj):Go.RowKit.Below w.heap.size w (w.alloc o):=(Go.RowKit.Below.refl _ w).alloc (kY _) o
theorem tab_pow{F:Nat→Prop}{w:World}(hZ:GOk Tryz.prog (AM.base F w)):Lib.TabIs Tryz.prog w "internal/strconv.uint64pow10" .u64 Lib.pow10Tab:=by
 cases hg:Program.globalNamed Tryz.prog "internal/strconv.uint64pow10" with
 | none =>
  have:(Program.globalNamed Tryz.prog "internal/strconv.uint64pow10").isSome=true:=by kernel_rfl
  rw[hg]at this;cases this
 | some g =>
  obtain⟨cs,h1,h2⟩:=hZ.var (nm:= "internal/strconv.uint64pow10") (C:=pow10C) (by simp[gLib]) hg;unfold Lib.TabIs;rw[show(AM.base F w).w=w from rfl]at h1;rw[h1,h2]
theorem gp(n:Int)(h:inI n):ab Tryz.prog 42 [.int .i64 n,.int .i64 10] fun r=>r = .str (bs (itoa n)):=by
 refine⟨⟨Tryz.f42,Tryz.func42,rfl,rfl⟩,fun F w vals hZ hF hsz hrel=>?_⟩;obtain⟨v0,v1,rfl⟩:=vals2 hsz;obtain rfl:=jF (hrel 0 _ v0 rfl rfl);obtain rfl:=jF (hrel 1 _ v1 rfl rfl)
 exact(Go.Proofs.Any.strconv_FormatInt_10 lays173 n h.1 h.2 w (tab_pow hZ)).mono fun e w' ⟨h1,k,os,h2⟩=>⟨_,_,h1,.str _,.str _,by subst h2;exact below_grow w k os,rfl⟩
theorem maxlen_k{F:Nat→Prop}{w:World}(hZ:GOk Tryz.prog (AM.base F w)):∃m,w.cell? ⟨dB.g 1,0,none⟩=some (.int .i64 m):=by
 have hg:Program.globalNamed Tryz.prog "internal/bytealg.MaxLen" = some (dB.g 1):=by kernel_rfl
 obtain⟨_,cs,t,m,h2,k,h3⟩:=hZ ("internal/bytealg.MaxLen",maxLenC) (by simp[gLib]) _ hg;have h2:w.heap[dB.g 1]?=_:=h2;exact⟨k,by simp[World.cell?,h2,h3]⟩
theorem bw(w:World)(o:Obj):(w.alloc o).heap[w.heap.size]?=some o:=by
 show(w.heap.push o)[w.heap.size]?=some o;simp
theorem kG(w:World)(o:Obj):(w.alloc o).heap.size=w.heap.size+1:=by
 show(w.heap.push o).size=_;simp
theorem rel_strs{F:Nat→Prop}{w:World}(hF:∀b,F b→b<w.heap.size)(ss:List ByteArray)(t:TypeId):Rel (AM.base F (w.alloc (.cells (ss.map Value.string).toArray t))) (.lst 1 false (ss.map V.str)) (.slice (some ⟨w.heap.size,0,none⟩) ss.length ss.length):=by
 have hnew:=bw w (.cells (ss.map Value.string).toArray t);have hsz:=kG w (.cells (ss.map Value.string).toArray t);generalize w.alloc (.cells (ss.map Value.string).toArray t)=W at hnew hsz ⊢
 have hcell:∀i m,ss[i]?=some m→W.cell? ⟨w.heap.size,i,none⟩=some (.string m):=fun i m hm=>by simp[World.cell?,hnew,hm]
 have hget:∀(i:Nat) (x:V) (j:Nat) (c:V),(ss.map V.str)[i]?=some x→x.cells[j]?=some c→∃m,ss[i]?=some m∧j=0∧c = .str m:=fun i x j c h1 h2=>by
  simp only[ko,kx]at h1;obtain⟨a,ha,rfl⟩:=h1
  match j,h2 with
  | 0,h2=>simp[V.cells]at h2;exact⟨a,ha,rfl,h2.symm⟩
  | j+1,h2=>simp[V.cells]at h2
 have:=Rel.lst (s:=AM.base F W) 1 false (ss.map V.str) (some ⟨w.heap.size,0,none⟩) ss.length w.heap.size 0 (fun i j=>((ss[i]?).map Value.string).getD Go.undef) (by simp) (fun h=>by cases h)
  (fun h0=>⟨rfl,by show w.heap.size<W.heap.size;omega,fun hf=>by have:=hF _ hf;omega,fun k hk=>by have:=hk.1;simp[AM.base]at this⟩)
  (fun x hxm=>by
   obtain⟨a,_,rfl⟩:=List.mem_map.1 hxm
   exact⟨rfl,fun c hc=>by simp[V.cells]at hc;subst hc;rfl⟩)
  (fun i x j c h1 h2=>by
   obtain⟨m,hm,rfl,rfl⟩:=hget i x j c h1 h2;simp only[hm,kv,lx];have:=hcell i m hm
   simpa[AM.base] using this)
  (fun i x j c h1 h2=>by
   obtain⟨m,hm,rfl,rfl⟩:=hget i x j c h1 h2;simp only[hm,kv,lx]
   exact .str _)
 simpa using this
theorem eN(l:List UInt8)(c:UInt8)(hl:l.length≤1000000000):ab Tryz.prog 19 [.str (bs l),.str (bs [c])] fun r=>r = .lst 1 false ((spl c l).map fun p=>.str (bs p)):=by
 refine⟨⟨Tryz.f19,Tryz.func19,rfl,rfl⟩,fun F w vals hZ hF hsz hrel=>?_⟩;obtain⟨v0,v1,rfl⟩:=vals2 hsz;obtain rfl:=gc (hrel 0 _ v0 rfl rfl);obtain rfl:=gc (hrel 1 _ v1 rfl rfl);obtain⟨m,hm⟩:=maxlen_k hZ
 have h1:1≤(bs [c]).size:=by rw[aM];simp
 have:=Go.Proofs.Any.strings_Split lays146 (by kernel_rfl) (bs l) (bs [c]) m w (by rw[aM];omega) hm h1
 have ec:Lib.countB (bs l) (bs [c])=Lib.count l [c]:=by
  unfold Lib.countB;rw[cy,cy]
 have es:Lib.splitB (bs [c]) 0 (Lib.countB (bs l) (bs [c])) (bs l)=(spl c l).map bs:=by
  have h2:=Lib.splitB_data (bs [c]) 0 (Lib.countB (bs l) (bs [c])) (bs l);rw[cy,cy,ec,split_one]at h2;rw[←h2,ec,mY]
  conv=>lhs;rw[←List.map_id (Lib.splitB _ _ _ _)]
  refine lg fun x _=>?_
  exact(dO x).symm
 have el:Lib.countB (bs l) (bs [c])+1=((spl c l).map bs).length:=by rw[←es];exact(Lib.splitB_all (bs [c]) h1 0 _ _ rfl).symm
 rw[el,es]at this
 refine this.mono fun e w' ⟨h1,h2⟩=>⟨_,_,h1,?_,?_,by subst h2;exact below_alloc w _,rfl⟩
 ·exact .lst _ _ _ (fun x hx=>by obtain⟨p,_,rfl⟩:=List.mem_map.1 hx;exact .str _)
 ·have:=rel_strs hF ((spl c l).map bs) (dB.t 9);rw[mY (f:=bs) (g:=V.str)]at this;subst h2;exact this
theorem vals3{a b c:V}{vals:Array Value}(h:vals.size=[a,b,c].length):∃v0 v1 v2,vals = #[v0,v1,v2]:=by
 obtain⟨l⟩:=vals
 match l,h with
 | [a,b,c],_=>exact⟨a,b,c,rfl⟩
def eE(l:List UInt8):V:=match parseIntB 64 l with
 | .ok v=>.tup [.int .i64 v,.nilI]
 | .range=>.tup [.int .i64 (intSat 64 l),.ifc]
 | _=>.tup [.int .i64 0,.ifc]
theorem jV{s:AM.St}{n:Int}{r:V}{u:Value}(h:Rel s r u):Rel s (.tup [.int .i64 n,r]) (.tuple #[.int .i64 n,u]):=by
 refine .tup _ _ rfl (fun i c w hc hw=>?_)
 match i with
 | 0=>simp at hc hw;subst hc;subst hw;exact .int _ _
 | 1=>simp at hc hw;subst hc;subst hw;exact h
 | k+2=>simp at hc
theorem err_cell{F:Nat→Prop}{w:World}(hZ:GOk Tryz.prog (AM.base F w)){nm:String}{g:Nat}(hm:(nm,errC)∈gLib)(hg:Program.globalNamed Tryz.prog nm=some g):∃ev,w.cell? ⟨g,0,none⟩=some ev∧(ev = .nilIface∨∃te pe,ev = .iface te pe):=by
 obtain⟨_,cs,t,m,h2,ev,h3,h4⟩:=hZ (nm,errC) hm _ hg;have h2:w.heap[g]?=_:=h2;exact⟨ev,by simp[World.cell?,h2,h3],h4⟩
theorem jZ(l:List UInt8)(hl:l.length≤1000000000):ab Tryz.prog 41 [.str (bs l),.int .i64 10,.int .i64 64] fun r=>r=eE l:=by
 refine⟨⟨Tryz.f41,Tryz.func41,rfl,rfl⟩,fun F w vals hZ hF hsz hrel=>?_⟩;obtain⟨v0,v1,v2,rfl⟩:=vals3 hsz;obtain rfl:=gc (hrel 0 _ v0 rfl rfl);obtain rfl:=jF (hrel 1 _ v1 rfl rfl);obtain rfl:=jF (hrel 2 _ v2 rfl rfl);have hd:(bs l).data.toList=l:=cy l
 cases hp:parseIntB 64 l with
 | ok v =>
  have e:eE l = .tup [.int .i64 v,.nilI]:=by unfold eE;rw[hp]
  rw[e]
  refine(Go.Proofs.Any.strconv_ParseInt_10_at64_ok lays174 (bs l) (by rw[aM];omega) v (by rw[hd];exact hp) w).mono fun e w' ⟨h1,h2⟩=>⟨_,_,h1,by simp,jV .nilI,?_,rfl⟩
  rcases h2 with rfl | ⟨t,rfl⟩
  ·exact Go.RowKit.Below.refl _ _
  ·exact Lib.bytesWorld_below _ _ _
 | range =>
  have e:eE l = .tup [.int .i64 (intSat 64 l),.ifc]:=by unfold eE;rw[hp]
  rw[e];obtain⟨ev,q1,q2⟩:=err_cell hZ (nm:= "strconv.ErrRange") (g:=fI.g 16) (by simp[gLib]) (by kernel_rfl)
  refine(Go.Proofs.Any.strconv_ParseInt_10_at64_range lays174 (bs l) (by rw[aM];omega) (by rw[hd];exact hp) ev w q1 q2).mono fun e w' ⟨N,h1,_,_,h2⟩=>?_
  rw[hd]at h1;exact⟨_,_,h1,by simp,jV (.ifc _ _),h2,rfl⟩
 | _ =>
  have e:eE l = .tup [.int .i64 0,.ifc]:=by unfold eE;rw[hp]
  rw[e];obtain⟨ev,q1,q2⟩:=err_cell hZ (nm:= "strconv.ErrSyntax") (g:=fI.g 15) (by simp[gLib]) (by kernel_rfl)
  exact(Go.Proofs.Any.strconv_ParseInt_10_at64_syntax lays174 (bs l) (by rw[aM];omega) (by rw[hd];exact hp) ev w q1 q2).mono fun e w' ⟨N,h1,_,_,h2⟩=>⟨_,_,h1,by simp,jV (.ifc _ _),h2,rfl⟩
theorem celN_P:∀(ns:List Int),ns.length % 2=0→az (iW ns)=ns
 | [],_=>rfl
 | [_],h=>by simp at h
 | a::b::r,h=>by
  have:=celN_P r (by simp at h;omega);show [a,b]++az (iW r)=a::b::r;rw[this];rfl
theorem celP_N:∀(l:List Cel),iW (az l)=l
 | []=>rfl
 | x::l=>by
  show⟨x.id,x.a⟩::iW (az l)=x::l;rw[celP_N l]
theorem shN_P:∀(ns:List Int),ns.length % 2=0→shN (shP ns)=ns
 | [],_=>rfl
 | [_],h=>by simp at h
 | a::b::r,h=>by
  have:=shN_P r (by simp at h;omega);show [a,b]++shN (shP r)=a::b::r;rw[this];rfl
theorem shP_N:∀(l:List Csh),shP (shN l)=l
 | []=>rfl
 | x::l=>by
  show⟨x.e,x.a⟩::shP (shN l)=x::l;rw[shP_N l]
theorem celN_len:∀(l:List Cel),(az l).length % 2=0
 | []=>rfl
 | x::l=>by
  have:=celN_len l;show([x.id,x.a]++az l).length % 2=0;simp;omega
theorem shN_len:∀(l:List Csh),(shN l).length % 2=0
 | []=>rfl
 | x::l=>by
  have:=shN_len l;show([x.e,x.a]++shN l).length % 2=0;simp;omega
theorem celP_in:∀(ns:List Int),(∀n∈ns,inI n)→∀x∈iW ns,inI x.id∧inI x.a
 | [],_,x,hx=>by cases hx
 | [_],_,x,hx=>by cases hx
 | a::b::r,h,x,hx=>by
  rcases List.mem_cons.1 hx with rfl | hx
  ·exact⟨h a (by simp),h b (by simp)⟩
  ·exact celP_in r (fun n hn=>h n (by simp[hn])) x hx
theorem shP_in:∀(ns:List Int),(∀n∈ns,inI n)→∀x∈shP ns,inI x.e∧inI x.a
 | [],_,x,hx=>by cases hx
 | [_],_,x,hx=>by cases hx
 | a::b::r,h,x,hx=>by
  rcases List.mem_cons.1 hx with rfl | hx
  ·exact⟨h a (by simp),h b (by simp)⟩
  ·exact shP_in r (fun n hn=>h n (by simp[hn])) x hx
theorem jM{l:List Cel}(h:∀x∈l,inI x.id∧inI x.a):∀n∈az l,inI n:=by
 intro n hn;obtain⟨x,hx,hn⟩:=List.mem_flatMap.1 hn;simp at hn
 rcases hn with rfl | rfl
 ·exact(h x hx).1
 ·exact(h x hx).2
theorem shN_in{l:List Csh}(h:∀x∈l,inI x.e∧inI x.a):∀n∈shN l,inI n:=by
 intro n hn;obtain⟨x,hx,hn⟩:=List.mem_flatMap.1 hn;simp at hn
 rcases hn with rfl | rfl
 ·exact(h x hx).1
 ·exact(h x hx).2
def body(c:Cert):List (List UInt8):=am c++(bE c).map ndL
theorem linesC_body(c:Cert):ak c=body c++[aT]:=rfl
def invC(c:Cert)(st:Nat):Prop :=
 okC c=true∧okR c∧(c.k=1→st=0→c.prf=[])∧(c.k=2→(st=0→c.cores=[])∧(st≤1→c.upr=[]))∧(c.k=3→st=0→c.prs=[])
theorem len1{ns:List Int}(h:ns.length=1):ns=[gN ns 0]:=by
 obtain⟨a,rfl⟩:=List.length_eq_one_iff.1 h;rfl
theorem len2{ns:List Int}(h:ns.length=2):ns=[gN ns 0,gN ns 1]:=by
 match ns,h with
 | [a,b],_=>rfl
theorem len3{ns:List Int}(h:ns.length=3):ns=[gN ns 0,gN ns 1,gN ns 2]:=by
 match ns,h with
 | [a,b,c],_=>rfl
theorem len3m{ns:List Int}(h:3≤ns.length):ns=gN ns 0::gN ns 1::gN ns 2::ns.drop 3:=by
 match ns,h with
 | a::b::c::r,_=>rfl
theorem io{ns:List Int}(h:∀n∈ns,inI n)(i:Nat):inI (gN ns i):=by
 unfold gN;rw[List.getD_eq_getElem?_getD]
 cases e:ns[i]? with
 | none=>exact⟨by decide,by decide⟩
 | some x=>exact h x (kS e)
theorem nodeC_ok{w:List UInt8}{ns:List Int}{n:Cnd}(hn:∀n∈ns,inI n)(h:aW w ns=some n):cL n=true∧ndL n=aG w ns∧inI n.v∧∀s∈n.l,inI s.e∧inI s.a:=by
 unfold aW at h;split at h
 ·rename_i h1;cases h;obtain⟨rfl,h2,h3⟩:=h1;refine⟨?_,?_,io hn 0,by simp⟩
  ·simp[cL,h3]
  ·unfold ndL;rw[if_neg (by show ¬gN ns 0 = -1;omega)];show aG au [gN ns 0]=_;rw[←len1 h2]
 ·split at h
  ·rename_i h1;cases h;obtain⟨rfl,h2⟩:=h1;refine⟨by simp[cL],?_,(show inI (-1) from⟨by decide,by decide⟩),shP_in ns hn⟩;unfold ndL;rw[if_pos rfl];show aG bc (shN (shP ns))=_;rw[shN_P ns h2]
  ·cases h
theorem toN{n:Int}(h:isS n):((n.toNat:Nat):Int)=n∧n.toNat<4294967296:=by unfold isS at h;omega
theorem iJ{c:Cert}(h:okC c=true):(1≤c.k∧c.k≤4)∧∀x∈bE c,cL x=true:=by
 unfold okC at h;rw[kb,decide_eq_true_iff,lJ]at h;exact h
theorem okC_of{c:Cert}(h:(1≤c.k∧c.k≤4)∧∀x∈bE c,cL x=true):okC c=true:=by
 unfold okC;rw[kb,decide_eq_true_iff,lJ];exact h
theorem memS{α}{p:α→Prop}{l:List α}{a:α}(h:∀x∈l,p x)(ha:p a):∀x∈l++[a],p x:=by
 intro x hx
 rcases List.mem_append.1 hx with hx | hx
 ·exact h x hx
 ·rw[List.mem_singleton.1 hx];exact ha
theorem addC_body{c:Cert}{st:Nat}{w:List UInt8}{ns:List Int}{c':Cert}{st':Nat}(hi:invC c st)(hn:∀n∈ns,inI n)(h:ad c st w ns=some (c',st')):invC c' st'∧body c'=body c++[aG w ns]:=by
 obtain⟨k,del,ww,prf,cells,t,cores,upr,sets,prs,steps,g⟩:=c;obtain⟨ok,⟨r1,r2,r3,r4,r5,r6,r7,r8,r9,r10,r11⟩,i1,i2,i3⟩:=hi;have ok':=iJ ok;unfold ad at h;simp only at h r1 r2 r3 r4 r5 r6 r7 r8 r9 r10 r11 i1 i2 i3;split at h
 ·rename_i hc;obtain⟨rfl,rfl,rfl,h1⟩:=hc;cases h;refine⟨⟨ok,⟨memS r1 (io hn 0),r2,r3,r4,r5,r6,r7,r8,r9,r10,r11⟩,i1,i2,i3⟩,?_⟩;have:=i1 rfl rfl;subst this;simp only[body,am,bE,if_true,lD,kp,lC,kj,kf];rw[←len1 h1]
 split at h
 ·rename_i hc;obtain⟨rfl,rfl,rfl,h1⟩:=hc;cases h;refine⟨⟨ok,⟨r1,r2,r3,memS r4 ⟨io hn 0,io hn 1⟩,r5,r6,r7,r8,r9,r10,r11⟩,i1,i2,i3⟩,?_⟩;obtain⟨e1,e2⟩:=i2 rfl;have e1:=e1 rfl;have e2:=e2 (by omega);subst e1 e2
  have:az [⟨gN ns 0,gN ns 1⟩]=ns:=by rw[len2 h1];rfl
  simp[body,am,bE,this]
 split at h
 ·rename_i hc;obtain⟨rfl,rfl,h0,h1⟩:=hc;cases h;obtain⟨e1,e2⟩:=i2 rfl;have e2:=e2 h0;subst e2;refine⟨⟨ok,⟨r1,r2,r3,r4,memS r5 (celP_in ns hn),r6,r7,r8,r9,r10,r11⟩,(fun h=>absurd (show(2:Int)=1 from h) (by decide)),fun _=>⟨fun h=>by omega,fun _=>rfl⟩,(fun h=>absurd (show(2:Int)=3 from h) (by decide))⟩,?_⟩;simp[body,am,bE,celN_P ns h1]
 split at h
 ·rename_i hc;obtain⟨rfl,rfl,rfl,h1,h2⟩:=hc;cases h;have e1:=i3 rfl rfl;subst e1;refine⟨⟨ok,⟨r1,r2,r3,r4,r5,r6,memS r7 (toN h2).2,r8,r9,r10,r11⟩,i1,i2,i3⟩,?_⟩;have:[gN ns 0]=ns:=(len1 h1).symm;simp[body,am,bE,(toN h2).1,-Int.ofNat_toNat,this]
 split at h
 ·rename_i hc;obtain⟨rfl,rfl,h1,h2⟩:=hc;cases h;refine⟨⟨ok,⟨r1,r2,r3,r4,r5,r6,r7,memS r8 ⟨(toN h2).2,io hn 1,io hn 2⟩,r9,r10,r11⟩,(fun h=>absurd (show(3:Int)=1 from h) (by decide)),(fun h=>absurd (show(3:Int)=2 from h) (by decide)),fun _ h=>by omega⟩,?_⟩;have:[gN ns 0,gN ns 1,gN ns 2]=ns:=(len3 h1).symm;simp[body,am,bE,(toN h2).1,-Int.ofNat_toNat,this]
 split at h
 ·rename_i hc;obtain⟨rfl,rfl,h1,h2,h3⟩:=hc;cases h;refine⟨⟨ok,⟨r1,r2,r3,r4,r5,r6,r7,r8,memS r9 ⟨io hn 0,fun i hi=>hn i (la hi),(toN h2).2,(toN h3).2⟩,r10,r11⟩,(fun h=>absurd (show(4:Int)=1 from h) (by decide)),(fun h=>absurd (show(4:Int)=2 from h) (by decide)),(fun h=>absurd (show(4:Int)=3 from h) (by decide))⟩,?_⟩
  have:stN ⟨gN ns 0,ns.drop 3,⟨(gN ns 1).toNat,(gN ns 2).toNat⟩⟩=ns:=by
   unfold stN;simp only[(toN h2).1,(toN h3).1];exact(len3m h1).symm
  simp[body,am,bE,this]
 split at h
 ·cases h
 ·rename_i n hnd;obtain⟨n1,n2,n3⟩:=nodeC_ok hn hnd;split at h
  ·rename_i hk;subst hk;cases h;refine⟨⟨okC_of ⟨(show(1:Int)≤1∧(1:Int)≤4 by decide),memS ok'.2 n1⟩,⟨r1,r2,memS r3 n3,r4,r5,r6,r7,r8,r9,r10,r11⟩,fun _ h=>by omega,(fun h=>absurd (show(1:Int)=2 from h) (by decide)),(fun h=>absurd (show(1:Int)=3 from h) (by decide))⟩,?_⟩;simp[body,am,bE,n2]
  ·split at h
   ·rename_i hk;subst hk;cases h;refine⟨⟨okC_of ⟨(show(1:Int)≤2∧(2:Int)≤4 by decide),memS ok'.2 n1⟩,⟨r1,r2,r3,r4,r5,memS r6 n3,r7,r8,r9,r10,r11⟩,(fun h=>absurd (show(2:Int)=1 from h) (by decide)),fun _=>⟨fun h=>by omega,fun h=>by omega⟩,(fun h=>absurd (show(2:Int)=3 from h) (by decide))⟩,?_⟩;simp[body,am,bE,n2]
   ·cases h
theorem firstC_body{w:List UInt8}{ns:List Int}{c:Cert}(hn:∀n∈ns,inI n)(h:ac w ns=some c):invC c 0∧body c=[aG w ns]:=by
 have z:inI 0:=⟨by decide,by decide⟩
 have nl:∀{m:List Int},m.length=0→m=[]:=fun h=>List.length_eq_zero_iff.1 h
 unfold ac at h;split at h
 ·rename_i hc;obtain⟨rfl,h1⟩:=hc;cases h;refine⟨⟨rfl,by simp[okR,aF];exact io hn 0,by simp[aF]⟩,?_⟩;simp only[body,am,bE,aF,if_true,lD,kp];rw[←len1 h1]
 split at h
 ·rename_i hc;obtain⟨rfl,h1⟩:=hc;cases h;cases nl h1;exact⟨⟨rfl,by simp[okR,aF];exact z,by simp[aF]⟩,rfl⟩
 split at h
 ·rename_i hc;obtain⟨rfl,h1⟩:=hc;cases h;cases nl h1;exact⟨⟨rfl,by simp[okR,aF];exact z,by simp[aF]⟩,rfl⟩
 split at h
 ·rename_i hc;obtain⟨rfl,h1,h2,h3⟩:=hc;cases h;refine⟨⟨rfl,⟨by simp[aF],z,by simp[aF],by simp[aF],by simp[aF],by simp[aF],by simp[aF],by simp[aF],by simp[aF],(toN h2).2,(toN h3).2⟩,by simp[aF]⟩,?_⟩;have:[gN ns 0,gN ns 1]=ns:=(len2 h1).symm;simp[body,am,bE,aF,(toN h2).1,(toN h3).1,-Int.ofNat_toNat,this]
 ·cases h
theorem go_inv:∀(ls:List (List UInt8)) (i:Nat) (c:Cert) (st:Nat) (c':Cert) (n:Nat),0<i→invC c st→goC i c st ls=(some c',n)→n=0∧okC c'=true∧okR c'∧∃mid,ls=mid++[aT,[]]∧body c'=body c++mid
 | [],i,c,st,c',n,hi,hv,h=>by cases h
 | [x],i,c,st,c',n,hi,hv,h=>by cases h
 | x::y::r,i,c,st,c',n,hi,hv,h=>by
  rw[goC]at h;split at h
  ·cases h
  ·rename_i w ns hr;obtain⟨hx,hns⟩:=rd_inv hr;split at h
   ·rename_i h1;split at h
    ·rename_i h2;cases h;obtain⟨rfl,rfl⟩:=h2;obtain⟨_,rfl,h3⟩:=h1;cases List.length_eq_zero_iff.1 h3;refine⟨rfl,hv.1,hv.2.1,[],?_,by simp⟩;rw[hx];simp[aG,du]
    ·cases h
   ·rw[if_neg (by omega)]at h;split at h
    ·cases h
    ·rename_i c1 st1 ha;obtain⟨v1,b1⟩:=addC_body hv hns ha;obtain⟨q0,q1,q2,mid,e1,e2⟩:=go_inv (y::r) (i+1) c1 st1 c' n (by omega) v1 h;refine⟨q0,q1,q2,x::mid,by rw[e1];rfl,?_⟩;rw[e2,b1,hx];simp
theorem iN:∀(ls:List (List UInt8)),[10].intercalate (ls++[[]])=lnT ls
 | []=>by simp[lnT,lK,lL]
 | [x]=>by simp[lnT,lK,lL]
 | x::y::r=>by
  have ih:=iN (y::r)
  have e:([10]:List UInt8).intercalate (x::y::(r++[[]]))=x++10::[10].intercalate (y::(r++[[]])):=by simp[lK,lL]
  rw[kf,kf,e];rw[kf]at ih;rw[ih];simp[lnT]
theorem fe{s:List UInt8}{c:Cert}{n:Nat}(h:bG s=(some c,n)):n=0∧okC c=true∧okR c∧lnT (ak c)=s:=by
 unfold bG at h;have hj:=join_spl 10 s
 cases hs:spl 10 s with
 | nil=>exact absurd hs (dq _ _)
 | cons x l =>
  rw[hs]at h hj
  cases l with
  | nil=>cases h
  | cons y r =>
   rw[goC]at h;split at h
   ·cases h
   ·rename_i w ns hr;obtain⟨hx,hns⟩:=rd_inv hr;rw[if_neg (by rintro⟨h,_⟩;omega),if_pos rfl]at h
    cases hf:ac w ns with
    | none=>rw[hf]at h;cases h
    | some c1 =>
     rw[hf]at h;simp only[kv]at h;obtain⟨v1,b1⟩:=firstC_body hns hf;obtain⟨q0,q1,q2,mid,e1,e2⟩:=go_inv (y::r) 1 c1 0 c n (by omega) v1 h;refine⟨q0,q1,q2,?_⟩;rw[←hj,e1,linesC_body,e2,b1,hx];rw[←iN];simp
theorem di(a b:List (List UInt8)):lnT (a++b)=lnT a++lnT b:=by simp[lnT]
theorem bd{α β:Type}(l:List α)(g:α→β){i:Nat}(h:i<l.length):(l.map g).take (i+1)=(l.map g).take i++[g l[i]]:=by rw[←mV,ap l h,lC,mV];rfl
theorem jQ:∀(l:List Csh) (j:Nat),j≤l.length→(shN (l.take j)).length=2*j
 | l,0,_=>rfl
 | [],j+1,h=>by simp at h
 | x::l,j+1,h=>by
  have:=jQ l j (by simpa using h);show([x.e,x.a]++shN (l.take j)).length=_;simp;omega
theorem shN_snoc(l:List Csh){j:Nat}(h:j<l.length):shN (l.take (j+1))=shN (l.take j)++[l[j].e,l[j].a]:=by
 rw[ap l h,shN,List.flatMap_append];rfl
def cndR(x:Cnd):Prop:=inI x.v∧(∀s∈x.l,inI s.e∧inI s.a)∧x.l.length≤100000
def pT(c:Cert):List UInt8:=if(bE c).all cL=true then lnT ((bE c).map ndL) else []
def txtC(c:Cert):List UInt8:=if 1≤c.k∧c.k≤4 then lnT (am c)++pT c++(aT++[10]) else []
structure SzC (c:Cert):Prop where
 r:okR c
 hd:(lnT (am c)).length≤1000000000
 pf:(lnT ((bE c).map ndL)).length≤1000000000
 nds:∀x∈bE c,cndR x
 ln:(bE c).length≤1000000
 l1:c.del.length≤1000000
 l2:c.cells.length≤1000000
 l3:c.cores.length≤1000000
 l4:∀l∈c.cores,l.length≤100000
 l5:c.sets.length≤1000000
 l6:c.prs.length≤1000000
 l7:c.steps.length≤1000000
 l8:∀s∈c.steps,s.f.length≤100000
theorem dZ(x:List UInt8)(ls:List (List UInt8)):lnT (x::ls)=(x++[10])++lnT ls:=by simp[lnT]
theorem pT_len{c:Cert}(h:SzC c):(pT c).length≤1000000000:=by
 unfold pT;split
 ·exact h.pf
 ·simp
theorem kK(b:UInt8):∀(xs:List (List UInt8)),xs≠[]→∃p,xs[xs.length-1]?=some p∧addB b xs=xs.set (xs.length-1) (p++[b])
 | [],h=>absurd rfl h
 | [p],_=>⟨p,rfl,rfl⟩
 | p::q::r,_=>by
  obtain⟨z,h1,h2⟩:=kK b (q::r) (by simp);refine⟨z,by simpa using h1,?_⟩;show p::addB b (q::r)=_;rw[h2];simp
theorem bs_ext(l:List UInt8){i:Nat}(h:i<l.length):(bs l).extract i (i+1)=bs [l[i]]:=by
 have e:((bs l).extract i (i+1)).data.toList=[l[i]]:=by
  rw[ByteArray.data_extract];simp[bs,List.take_one]
 rw[←dO ((bs l).extract i (i+1)),e]
theorem bA(l:List UInt8)(i:Nat)(h:i<(bs l).size):(bs l)[i]'h=l[i]'(by rw[aM]at h;exact h):=rfl
theorem ne_toI{b c:UInt8}(h:¬b=c):¬(b.toNat:Int)=(c.toNat:Int):=fun e=>h (UInt8.toNat_inj.1 (by omega))
theorem cK(c:UInt8):∀(l:List UInt8),∀p∈spl c l,p.length≤l.length
 | [],p,h=>by simp[spl]at h;subst h;simp
 | b::l,p,h=>by
  by_cases hb:b=c
  ·rw[spl,if_pos hb]at h
   rcases List.mem_cons.1 h with rfl | h
   ·simp
   ·have:=cK c l p h;simp;omega
  ·obtain⟨q,qs,e1,e2⟩:=eA (l:=l) hb;rw[e2]at h
   rcases List.mem_cons.1 h with rfl | h
   ·have:=cK c l q (by rw[e1];exact lB);simp;omega
   ·have:=cK c l p (by rw[e1];exact lE _ h);simp;omega
theorem gj(l:List UInt8)(hl:l.length≤100000000):ab Tryz.prog 22 [.str (bs l)] fun r=>r = .lst 1 false ((spl 10 l).map fun p=>.str (bs p)):=by
 refine cm (aB tok Tryz.func22 rfl rfl ?_);refine fM (W_x tok mixed ?_);simp -dsimp[Tryz.f22,kQ];refine fM (W_regionO tok (t:=28) (len:=1) (v:=.buf 0 0 1 1) (H':=[.buf 9 1 [.str (bs [])] false]) rfl rfl rfl (by simp[eK,aC]) ?_);simp;refine wx ?_;simp -dsimp[];refine aS (W_loopM 36 0xfffffffd8 (by simp[mB]<;>rfl) (σ:=Nat) (fun i=>i≤l.length) (fun i=>l.length-i) (fun i=>[(3,.buf 0 0 (spl 10 (l.take i)).length (spl 10 (l.take i)).length),(4,.int .i64 i)]) (fun i=>[B.buf 9 1 ((spl 10 (l.take i)).map fun p=>.str (bs p)) false]) 0 (by simp) (by simp[spl]) (by simp[spl]) (by simp) ?_);rintro i hi N Q hN hQ;have hPn:=dq 10 (l.take i)
 have hPl:(spl 10 (l.take i)).length≤i+1:=by
  rw[cD];have:=kw (a:=(10:UInt8)) (l:=l.take i);rw[kg]at this;omega
 by_cases hb:i<l.length
 ·have hs:=spl_snoc 10 l[i] (l.take i);rw[←ap l hb]at hs;have hx:=bs_ext l hb;obtain⟨b,hbe⟩:∃b,b=l[i]:=⟨_,rfl⟩;have hbe':=hbe.symm;rw[←hbe]at hs hx;have hL:spl 10 (l.take (i+1))≠[]:=dq _ _;obtain⟨R,hR⟩:∃R,R=spl 10 (l.take (i+1)):=⟨_,rfl⟩;obtain⟨P,hP⟩:∃P,P=spl 10 (l.take i):=⟨_,rfl⟩;rw[←hP]at hPn hPl hs ⊢;by_cases h10:b=10
  ·rw[if_pos h10]at hs;subst h10;refine wx ?_;simp -dsimp[hb,aM,bA,hbe',aC,fx P.length (by omega)];refine hN (i+1) _ _ (by omega) (by omega) ?_ ⟨[],?_⟩ (by simp) (by simp)
   ·rw[hs];simp[aO i (by omega)]
   ·rw[hs];simp[aC]
  ·rw[if_neg h10]at hs;obtain⟨p,hp1,hp2⟩:=kK b P hPn;have hn:¬(b.toNat:Int)=10:=ne_toI h10
   have hP1:1≤P.length:=by cases P;exact absurd rfl hPn;simp
   have hpl:p.length≤i:=by
    have h1:=cK 10 _ p (hP▸kS hp1);rw[kg]at h1;omega
   obtain⟨hlt,hpe⟩:=List.getElem?_eq_some_iff.1 hp1;refine wx ?_;simp -dsimp[hb,aM,bA,hbe',hn];refine aS (ai tok mixed [17] [] [] (by kernel_rfl) fun C K hC hK=>?_);simp -implicitDefEqProofs [hb,(show(0:Int)≤(i:Int)+1 by omega),aM,wrapP P.length (by omega) hP1,aO i (by omega),hpe,hx,kF,(show p.length≤9223372036854775806 by omega),(show P.length-1<P.length by omega),(show p.length+1≤9223372036854775807 by omega),(show i≤i+1 by omega),(show i+1≤l.length by omega)];refine hK _ _ ?_;simp -dsimp[aO i (by omega)];refine hN (i+1) _ _ (by omega) (by omega) ?_ ⟨[],?_⟩ (by simp) (by simp)
   ·rw[hs,hp2];simp
   ·rw[hs,hp2,List.map_set];simp
 ·have e:l.take i=l:=kV (by omega);rw[e];refine wx ?_;simp -dsimp[hb,aM];refine hQ _ _ _ ?_;simp -dsimp[];obtain⟨R,hR⟩:∃R,R=spl 10 l:=⟨_,rfl⟩;rw[←hR];exact exp_buf (k:=0) (e:=9) (z:=1) (xs:=R.map fun p=>.str (bs p)) (fz:=false) rfl (by simp) (by simp)
theorem numsR_fm:∀(ws:List (List UInt8)),(∀x∈ws,(bQ x).isSome=true)→fu ws=some (ws.filterMap bQ)
 | [],_=>rfl
 | x::ws,h=>by
  obtain⟨n,hn⟩:=Option.isSome_iff_exists.1 (h x lB);rw[fu,hn,numsR_fm ws (fun y hy=>h y (lE _ hy)),List.filterMap_cons,hn]
theorem je:∀{ws:List (List UInt8)} {x:List UInt8},x∈ws→bQ x=none→fu ws=none
 | y::ws,x,h,hx=>by
  rw[fu]
  rcases List.mem_cons.1 h with rfl | h
  ·rw[hx]
  ·cases hy:bQ y with
   | none=>rfl
   | some n =>
    simp only;rw[je h hx]
theorem pint_some{l:List UInt8}{n:Int}(h:bQ l=some n):eE l = .tup [.int .i64 n,.nilI]∧itoa n=l∧inI n:=by
 obtain⟨h1,h2⟩:=fH.1 h;have hp:=jX h2.1 h2.2;rw[h1]at hp;exact⟨by unfold eE;rw[hp],h1,h2⟩
theorem pint_none{l:List UInt8}(h:bQ l=none):(∃v,eE l = .tup [.int .i64 v,.nilI]∧inI v∧¬itoa v=l)∨∃n,eE l = .tup [.int .i64 n,.ifc]:=by
 rw[←numP_R]at h;unfold numP at h;unfold eE
 cases hp:parseIntB 64 l with
 | ok v =>
  rw[hp]at h;simp only at h;split at h
  ·cases h
  ·rename_i hv;exact .inl ⟨v,rfl,parse_in hp,hv⟩
 | range=>exact .inr ⟨_,rfl⟩
 | _=>exact .inr ⟨_,rfl⟩
def rdV:Option (List UInt8×List Int)→V
 | some (w,ns)=>.tup [.agg [.str (bs w),.lst 1 false (ns.map aD)],.bool true]
 | none=>.tup [.agg [.str (bs []),.nilS],.bool false]
theorem ae{a b:List UInt8}(h:¬a=b):¬(bs a).toList=(bs b).toList:=fun e=>h (by rw[Go.ByteArray.toList_eq,Go.ByteArray.toList_eq,cy,cy]at e;exact e)
theorem rdL_some{s:List UInt8}{w:List UInt8}{ws:List (List UInt8)}(h:spl 32 s=w::ws)(hs:∀x∈ws,(bQ x).isSome=true):rdL s=some (w,ws.filterMap bQ):=by
 unfold rdL;rw[h];simp only;rw[numsR_fm ws hs]
theorem rdL_none{s:List UInt8}{w:List UInt8}{ws:List (List UInt8)}{x:List UInt8}(h:spl 32 s=w::ws)(hx:x∈ws)(hn:bQ x=none):rdL s=none:=by
 unfold rdL;rw[h];simp only;rw[je hx hn]
theorem jU(s:List UInt8)(hl:s.length≤100000):ab Tryz.prog 20 [.str (bs s)] fun r=>r=rdV (rdL s):=by
 have hsp:=eN s 32 (by omega)
 obtain⟨w,ws,hw⟩:∃w ws,spl 32 s=w::ws:=by
  cases h:spl 32 s with
  | nil=>exact absurd h (dq 32 s)
  | cons w ws=>exact⟨w,ws,rfl⟩
 have hwl:ws.length≤100000:=by
  have:=cD 32 s;have h2:=kw (a:=(32:UInt8)) (l:=s);rw[hw,kZ]at this;omega
 have hpl:∀x∈ws,x.length≤100000:=fun x hx=>by
  have:=cK 32 s x (by rw[hw];exact lE _ hx);omega
 rw[hw,kj]at hsp
 have htl:lh ws.length (ws.map fun p=>V.str (bs p))=ws.map fun p=>V.str (bs p):=kV (by simp)
 obtain⟨E,hE⟩:∃E,E=rdV (rdL s):=⟨_,rfl⟩;rw[←hE];refine ay (aB tok Tryz.func20 rfl rfl ?_);refine wx ?_;simp -dsimp[Tryz.f20,kQ];refine cPx (hsp) (by simp) ?_;simp -dsimp[];refine aS (ba 2 1 [] 1 [1] rfl (by simp) (by simp) (W_loopM 44 0xffffff80388 (by simp[mB]<;>rfl) (σ:=Nat) (fun i=>i≤ws.length∧∀x∈ws.take i,(bQ x).isSome=true) (fun i=>ws.length-i) (fun i=>[(19,.int .i64 i)]) (fun i=>[B.cells [.str aX,.nilS],B.cells [.str (bs w),.buf 2 0 ((ws.take i).filterMap bQ).length ((ws.take i).filterMap bQ).length],B.buf 2 1 (((ws.take i).filterMap bQ).map aD) false]) 0 ⟨by omega,by simp⟩ (by simp) (by simp) (by simp) ?_));rintro i ⟨hi,hok⟩ N Q hN hQ
 have hFl:((ws.take i).filterMap bQ).length≤100000:=by
  have h1:=List.length_filterMap_le bQ (ws.take i);rw[kg]at h1;omega
 by_cases hb:i<ws.length
 ·have hm:=kW hb;have hx0:=hpl _ hm;have htk:=ap ws hb;obtain⟨x,hx⟩:∃x,x=ws[i]:=⟨_,rfl⟩;have hx':=hx.symm;rw[hx']at hm hx0 htk;have hp:=jZ x (by omega);obtain⟨F,hF⟩:∃F,F=(ws.take i).filterMap bQ:=⟨_,rfl⟩;rw[←hF]at hFl ⊢
  cases hn:bQ x with
  | some n =>
   obtain⟨e1,e2,e3⟩:=pint_some hn;have hf:=gp n e3;rw[e1]at hp;rw[e2]at hf;refine wx ?_;simp -dsimp[hb,hx',kV];refine cPx (hp) (by simp) ?_;simp -dsimp[];refine cPx (hf) (by simp) ?_;simp -dsimp[cap8 F.length (by omega),aD,aO i (by omega)];refine hN (i+1) _ _ ⟨by omega,fun y hy=>?_⟩ (by omega) ?_ ⟨[],?_⟩ (by simp[htl]) (by generalize List.filterMap bQ (lh (i+1) ws)=F2;simp[htl,aD])
   ·rw[htk]at hy
    rcases List.mem_append.1 hy with hy | hy
    ·exact hok y hy
    ·rw[List.mem_singleton.1 hy,hn];rfl
   ·simp[htl]
   ·rw[htk,List.filterMap_append,←hF];simp[hn,aD]
  | none =>
   have hE2:E = .tup [.agg [.str (bs []),.nilS],.bool false]:=by rw[hE,rdL_none hw hm hn];rfl
   rcases pint_none hn with⟨v,e1,e2,e3⟩ | ⟨v,e1⟩
   ·have hf:=gp v e2;rw[e1]at hp;refine wx ?_;simp -dsimp[hb,hx'];refine cPx (hp) (by simp) ?_;simp -dsimp[];refine cPx (hf) (by simp) ?_;simp -dsimp[ae e3];refine hQ _ _ _ ?_;simp -dsimp[];rw[hE2];exact⟨.pure _ (by simp[aC]),by simp⟩
   ·rw[e1]at hp;refine wx ?_;simp -dsimp[hb,hx'];refine cPx (hp) (by simp) ?_;simp -dsimp[];refine hQ _ _ _ ?_;simp -dsimp[];rw[hE2];exact⟨.pure _ (by simp[aC]),by simp⟩
 ·have e:ws.take i=ws:=kV (by omega);rw[e]at hok hFl ⊢
  have hE2:E=rdV (some (w,ws.filterMap bQ)):=by rw[hE,rdL_some hw hok]
  obtain⟨F,hF⟩:∃F,F=ws.filterMap bQ:=⟨_,rfl⟩;rw[←hF]at hE2 hFl ⊢;refine wx ?_;simp -dsimp[hb];refine hQ _ _ _ ?_;simp -dsimp[];rw[hE2];refine⟨?_,by simp[rdV]⟩;refine .tup _ _ rfl (fun j c d hc hd=>?_)
  match j with
  | 0=>simp[rdV]at hc hd;subst hc;subst hd;exact ExpX.agg2 (.pure _ (by simp)) (bJ (k:=2) (e:=2) (fz:=false) rfl (by simp) (by simp))
  | 1=>simp[rdV]at hc hd;subst hc;subst hd;exact .pure _ (by simp)
  | m+2=>simp at hc
theorem wrap8d{c:UInt8}(h1:48≤c.toNat)(h2:c.toNat≤57):IntKind.u8.wrap ((c.toNat:Int)-48)=((dgV c:Nat):Int):=by
 rw[IntKind.wrap_u8];unfold dgV;omega
def nuV:Option Int→V
 | some n=>.tup [.int .i64 n,.bool true]
 | none=>.tup [.int .i64 0,.bool false]
theorem u45{c:UInt8}(h:(c.toNat:Int)=45):c=45:=UInt8.toNat_inj.1 (by have:(45:UInt8).toNat=45:=rfl;omega)
theorem u48{c:UInt8}(h:(c.toNat:Int)=48):c=48:=UInt8.toNat_inj.1 (by have:(48:UInt8).toNat=48:=rfl;omega)
theorem gi{l:List UInt8}(h0:¬l=[])(h20:¬(20:Int)<(l.length:Int)):bQ l=if(l.drop (ofN l)).head?=some 48∧1<l.length then none else gI (l.head? == some 45) (l.drop (ofN l)) 0:=by
 conv=>lhs;unfold bQ
 rw[if_neg (by simp[h0];omega)]
end
end Go.Proofs.YtdhgchekdkjcpaaGreatDoor
namespace Go.Proofs.YtdhgchekdkjcpaaGreatDoor
section
open Go Go.AM Go.RowKit Go.Lib
def dig1(a:ByteArray):Option Int:=if a.data.toList=[48] then some 0 else if a.data.toList=[49] then some 1 else if a.data.toList=[50] then some 2 else none
theorem dig1_ok{a:ByteArray}{n:Int}(h:dig1 a=some n):eE a.data.toList = .tup [.int .i64 n,.nilI]∧a=bs (itoa n):=by
 unfold dig1 at h;have e:=(dO a).symm;split at h
 ·rename_i h1;cases h;rw[h1]at e ⊢;exact⟨by kernel_rfl,by rw[e];kernel_rfl⟩
 ·split at h
  ·rename_i h1;cases h;rw[h1]at e ⊢;exact⟨by kernel_rfl,by rw[e];kernel_rfl⟩
  ·split at h
   ·rename_i h1;cases h;rw[h1]at e ⊢;exact⟨by kernel_rfl,by rw[e];kernel_rfl⟩
   ·cases h
def itoa1(n:Int):Option ByteArray:=if n=0 then some ⟨#[48]⟩ else if n=1 then some ⟨#[49]⟩ else if n=2 then some ⟨#[50]⟩ else none
theorem itoa1_ok{n:Int}{a:ByteArray}(h:itoa1 n=some a):a=bs (itoa n)∧inI n:=by
 unfold itoa1 at h;split at h
 ·rename_i h1;cases h;subst h1;exact⟨by kernel_rfl,by unfold inI;omega⟩
 ·split at h
  ·rename_i h1;cases h;subst h1;exact⟨by kernel_rfl,by unfold inI;omega⟩
  ·split at h
   ·rename_i h1;cases h;subst h1;exact⟨by kernel_rfl,by unfold inI;omega⟩
   ·cases h
def cutE(a b:ByteArray):Option V:=match b.data.toList with
 | [c]=>if a.data.toList.length≤1000 then some (.lst 1 false ((spl c a.data.toList).map fun p=>.str (bs p))) else none
 | _=>none
def ext:dK:=fun f args H=>match f,args with
 | 224,[.int .u32 x]=>some (.int .i64 (tzI x),H)
 | 256,[.str a,.str b]=>some (.int .i64 (cmpS a b),H)
 | 19,[.str a,.str b]=>(cutE a b).map fun v=>(v,H)
 | 41,[.str a,.int .i64 10,.int .i64 64]=>(dig1 a).map fun n=>(.tup [.int .i64 n,.nilI],H)
 | 42,[.int .i64 n,.int .i64 10]=>(itoa1 n).map fun a=>(.str a,H)
 | _,_=>none
theorem cX:cH Tryz.prog ext:=fun f args H r H' h=>by
 unfold ext at h;split at h
 ·cases h;rename_i x;have:=cr (H:=H) (tz_con x) (by simp);simpa only[af,kp] using this
 ·cases h;rename_i a b;have:=cr (H:=H) (cmp_con a b) (by simp);simpa only[af,kp] using this
 ·rename_i a b
  cases hc:cutE a b with
  | none=>rw[hc]at h;cases h
  | some v =>
   rw[hc]at h;cases h;unfold cutE at hc;split at hc
   ·rename_i c hb;split at hc
    ·rename_i hl;cases hc;have:=cr (H:=H) (eN a.data.toList c (by omega)) (by simp);rw[dO,←hb,dO]at this;simpa only[af,kp] using this
    ·cases hc
   ·cases hc
 ·rename_i a
  cases hc:dig1 a with
  | none=>rw[hc]at h;cases h
  | some n =>
   rw[hc]at h;cases h;obtain⟨e1,e2⟩:=dig1_ok hc
   have hl:a.data.toList.length≤1000000000:=by
    unfold dig1 at hc;split at hc
    ·rename_i q;rw[q];simp
    ·split at hc
     ·rename_i q;rw[q];simp
     ·split at hc
      ·rename_i q;rw[q];simp
      ·cases hc
   have:=cr (H:=H) (jZ a.data.toList hl) (by simp);rw[dO,e1]at this;simpa only[af,kp] using this
 ·rename_i n
  cases hc:itoa1 n with
  | none=>rw[hc]at h;cases h
  | some a =>
   rw[hc]at h;cases h;obtain⟨e1,e2⟩:=itoa1_ok hc;have:=cr (H:=H) (gp n e2) (by simp);rw[←e1]at this;simpa only[af,kp] using this
 ·cases h
theorem allNamed:(Tryz.prog.funcs.toList.all fun fn=>!(fn.name == "runtime.NumGoroutine"))=true:=by kernel_rfl
theorem bZ:∀(f:Nat) (fn:Func),Tryz.prog.funcs[f]?=some fn→(fn.name == "runtime.NumGoroutine")=false:=fun f fn h=>by
 have:=List.all_eq_true.1 allNamed fn (by rw[Array.mem_toList_iff];exact Array.mem_of_getElem? h);simpa using this
end
end Go.Proofs.YtdhgchekdkjcpaaGreatDoor
namespace Go.Proofs.YtdhgchekdkjcpaaGreatDoor
section
open Go Go.AM Go.Lib
def iv(n:Int):V:=.agg [.int .i64 1,.int .i64 n,.str ⟨#[]⟩]
def keyB(b:UInt8):List UInt8:=[1,128,0,0,0,0,0,0,b]
def keyL(b:UInt8):V:=.lst 1 false ((keyB b).map fun c=>.int .u8 (c.toNat:Int))
theorem key_of(n:Int)(b:UInt8)(h1:ab Tryz.prog 213 [iv n] fun x=>x = .bool true)(h2:ab Tryz.prog 242 [.lst 1 true [.int .u8 1],.int .i64 n] fun x=>x=keyL b):
  ab Tryz.prog 202 [iv n] fun x=>x = .tup [.str ⟨(keyB b).toArray⟩,.int .i64 0]:=by
 refine cm (aB tok Tryz.func202 rfl rfl ?_);refine fM (W_x tok mixed ?_);simp -dsimp[Tryz.f202,kQ,iv];simp only[iv]at h1;refine fM (W_x tok mixed ?_);simp -dsimp;refine cPx (h1) (by simp) ?_;simp -dsimp;refine fM (W_x tok mixed ?_);simp -dsimp;refine fM (W_x tok mixed ?_);simp -dsimp;refine cPx (h2) (by simp) ?_;simp -dsimp;refine fM (W_regionB tok (src:=57) (dst:=9) (e:=5) (l:=keyB b) (f:=false) rfl rfl rfl rfl rfl Tryz.underlying57 Tryz.underlying5 Tryz.underlying9 (by simp[keyB]) (by simp[keyL]) ?_);simp -dsimp;refine wx ?_;simp -dsimp[]
theorem val_1:ab Tryz.prog 213 [iv 1] fun x=>x = .bool true:=aR tok mixed bZ cX (fuel:=1000) (d:=40) (by kernel_rfl) (.bool _)
theorem val_2:ab Tryz.prog 213 [iv 2] fun x=>x = .bool true:=aR tok mixed bZ cX (fuel:=1000) (d:=40) (by kernel_rfl) (.bool _)
theorem keyL_pure(b:UInt8):AM.Pure (keyL b):=by simp[keyL]
theorem num_1:ab Tryz.prog 242 [.lst 1 true [.int .u8 1],.int .i64 1] fun x=>x=keyL 1:=aR tok mixed bZ cX (fuel:=1000) (d:=40) (by kernel_rfl) (keyL_pure 1)
theorem num_2:ab Tryz.prog 242 [.lst 1 true [.int .u8 1],.int .i64 2] fun x=>x=keyL 2:=aR tok mixed bZ cX (fuel:=1000) (d:=40) (by kernel_rfl) (keyL_pure 2)
theorem key_1:ab Tryz.prog 202 [iv 1] fun x=>x = .tup [.str ⟨(keyB 1).toArray⟩,.int .i64 0]:=key_of 1 1 val_1 num_1
theorem key_2:ab Tryz.prog 202 [iv 2] fun x=>x = .tup [.str ⟨(keyB 2).toArray⟩,.int .i64 0]:=key_of 2 2 val_2 num_2
def keyV(n:Int):Option V:=if n=1 then some (.tup [.str ⟨#[1,128,0,0,0,0,0,0,1]⟩,.int .i64 0]) else if n=2 then some (.tup [.str ⟨#[1,128,0,0,0,0,0,0,2]⟩,.int .i64 0]) else none
def extK:dK:=fun f args H=>match f,args with
 | 202,[.agg [.int .i64 1,.int .i64 n,.str s]]=>if s.data.toList=[] then(keyV n).map fun v=>(v,H) else none
 | f,args=>ext f args H
theorem dl:cH Tryz.prog extK:=fun f args H r H' h=>by
 unfold extK at h;split at h
 ·rename_i n s;split at h
  ·rename_i hs
   cases hk:keyV n with
   | none=>rw[hk]at h;cases h
   | some v =>
    rw[hk]at h;cases h
    have es:s=⟨#[]⟩:=by cases s;rename_i d;have:=Array.toList_inj.1 (show d.toList=(#[]:Array UInt8).toList by simpa using hs);rw[this]
    subst es;unfold keyV at hk;split at hk
    ·rename_i hn;cases hk;subst hn;have:=cr (H:=H) key_1 (by simp[iv]);simpa only[af,kp,iv,keyB] using this
    ·split at hk
     ·rename_i hn;cases hk;subst hn;have:=cr (H:=H) key_2 (by simp[iv]);simpa only[af,kp,iv,keyB] using this
     ·cases hk
  ·cases h
 ·exact cX _ _ H r H' h
def bN{α:Type}(f:α→Nat)(l:List α):Nat:=(l.map f).sum
theorem iG{α:Type}(f:α→Nat)(x:α)(l:List α):bN f (x::l)=f x+bN f l:=by simp[bN]
theorem fS{α:Type}(f:α→Nat)(x:α)(l:List α):bN f (l++[x])=bN f l+f x:=by simp[bN]
theorem ey{α:Type}(f:α→Nat):∀{l:List α} {x:α},x∈l→f x≤bN f l
 | y::l,x,h=>by
  rw[iG]
  rcases List.mem_cons.1 h with rfl | h
  ·omega
  ·have:=ey f h;omega
theorem ez{α:Type}(f:α→Nat)(h:∀x,1≤f x):∀(l:List α),l.length≤bN f l
 | []=>by simp
 | x::l=>by rw[iG,kZ];have:=h x;have:=ez f h l;omega
theorem fR{α:Type}(f:α→Nat)(l:List α)(i:Nat):bN f (l.take i)≤bN f l:=by
 have e:bN f l=bN f (l.take i)+bN f (l.drop i):=by
  unfold bN;rw[←List.sum_append,←lC,lp]
 omega
def fewN(c:Cert):Nat:=c.del.length+c.cells.length+c.sets.length+c.prs.length+bN (fun x:Cnd=>1+x.l.length) c.prf+bN (fun x:Cnd=>1+x.l.length) c.upr+bN (fun l:List Cel=>1+l.length) c.cores+bN (fun s:Cst=>1+s.f.length) c.steps
theorem dg{α:Type}(f:α→List UInt8)(K:Nat):∀(l:List α),(∀x∈l,(f x).length≤K)→(lnT (l.map f)).length≤l.length*(K+1)
 | [],_=>by simp[lnT]
 | x::l,h=>by
  have h1:=h x lB;have h2:=dg f K l (fun y hy=>h y (lE _ hy));simp only[kj,dZ,kT,kZ,kq,kh];omega
theorem lineT_len(w:List UInt8)(ns:List Int)(h:∀n∈ns,inI n):(aG w ns).length≤w.length+21*ns.length:=by
 have:=gh ns h;unfold aG;rw[kT];omega
theorem eJ(l:List Cel):(az l).length=2*l.length:=by
 induction l with
 | nil=>rfl
 | cons x l ih=>have:az (x::l)=[x.id,x.a]++az l:=rfl;rw[this,kT,ih,kZ];simp;omega
theorem fB(l:List Csh):(shN l).length=2*l.length:=by
 induction l with
 | nil=>rfl
 | cons x l ih=>have:shN (x::l)=[x.e,x.a]++shN l:=rfl;rw[this,kT,ih,kZ];simp;omega
theorem celN_inZ{l:List Cel}(h:∀x∈l,inI x.id∧inI x.a):∀n∈az l,inI n:=fun n hn=>by
 obtain⟨x,hx,hn⟩:=List.mem_flatMap.1 hn;simp at hn
 rcases hn with rfl | rfl
 ·exact(h x hx).1
 ·exact(h x hx).2
theorem shN_inZ{l:List Csh}(h:∀x∈l,inI x.e∧inI x.a):∀n∈shN l,inI n:=fun n hn=>by
 obtain⟨x,hx,hn⟩:=List.mem_flatMap.1 hn;simp at hn
 rcases hn with rfl | rfl
 ·exact(h x hx).1
 ·exact(h x hx).2
theorem fQ{n:Nat}(h:n<4294967296):inI (n:Int):=by unfold inI;omega
theorem mul6{a:Nat}(k:Nat)(h:a≤600):a*k≤600*k:=ka _ h
theorem iu(w:List UInt8)(ns:List Int)(K:Nat)(h:∀n∈ns,inI n)(h2:w.length+21*ns.length≤K):(aG w ns).length≤K:=lM (lineT_len w ns h) h2
theorem few_sz{c:Cert}(h:fewN c≤600)(r:okR c):SzC c:=by
 obtain⟨r1,r2,r3,r4,r5,r6,r7,r8,r9,r10,r11⟩:=r;unfold fewN at h;have e1:=ez (fun x:Cnd=>1+x.l.length) (fun x=>by omega) c.prf;have e2:=ez (fun x:Cnd=>1+x.l.length) (fun x=>by omega) c.upr;have e3:=ez (fun l:List Cel=>1+l.length) (fun x=>by omega) c.cores;have e4:=ez (fun s:Cst=>1+s.f.length) (fun x=>by omega) c.steps
 have m1:∀x∈c.prf,x.l.length≤600:=fun x hx=>by have:=ey (fun x:Cnd=>1+x.l.length) hx;omega
 have m2:∀x∈c.upr,x.l.length≤600:=fun x hx=>by have:=ey (fun x:Cnd=>1+x.l.length) hx;omega
 have m3:∀l∈c.cores,l.length≤600:=fun x hx=>by have:=ey (fun l:List Cel=>1+l.length) hx;omega
 have m4:∀s∈c.steps,s.f.length≤600:=fun x hx=>by have:=ey (fun s:Cst=>1+s.f.length) hx;omega
 have nd:∀l:List Cnd,(∀x∈l,inI x.v∧∀s∈x.l,inI s.e∧inI s.a)→(∀x∈l,x.l.length≤600)→∀x∈l,(ndL x).length≤30000:=fun l hl hm x hx=>by
  unfold ndL;have:=hm x hx;split
  ·exact iu _ _ _ (shN_inZ (hl x hx).2) (by rw[fB];simp[bc];omega)
  ·exact iu _ _ _ (fun n hn=>by simp at hn;subst hn;exact(hl x hx).1) (by simp[au])
 have hprf:(∀x∈bE c,cndR x)∧(bE c).length≤600∧∀x∈bE c,(ndL x).length≤30000:=by
  unfold bE;split
  ·exact⟨fun x hx=>⟨(r3 x hx).1,(r3 x hx).2,by have:=m1 x hx;omega⟩,by omega,nd _ r3 m1⟩
  ·split
   ·exact⟨fun x hx=>⟨(r6 x hx).1,(r6 x hx).2,by have:=m2 x hx;omega⟩,by omega,nd _ r6 m2⟩
   ·simp
 refine⟨⟨r1,r2,r3,r4,r5,r6,r7,r8,r9,r10,r11⟩,?_,?_,hprf.1,by omega,by omega,by omega,by omega,fun l hl=>by have:=m3 l hl;omega,by omega,by omega,by omega,fun s hs=>by have:=m4 s hs;omega⟩
 ·unfold am;split
  ·rw[dZ,kT,kT];have a1:=iu dM [c.w] 100 (fun n hn=>by simp at hn;subst hn;exact r2) (by simp[dM]);have a2:=dg (fun i=>aG bR [i]) 100 c.del (fun x hx=>iu _ _ _ (fun n hn=>by simp at hn;subst hn;exact r1 _ hx) (by simp[bR]));have a3:=mul6 101 (show c.del.length≤600 by omega);simp only[kZ,kq];omega
  ·split
   ·rw[dZ,di,kT,kT,kT];have a1:=iu dG [] 100 (fun n hn=>by simp at hn) (by simp[dG]);have a2:=dg (fun x=>aG ao (az [x])) 100 c.cells (fun x hx=>iu _ _ _ (celN_inZ (fun y hy=>by simp at hy;subst hy;exact r4 _ hx)) (by rw[eJ];simp[ao]));have a3:=mul6 101 (show c.cells.length≤600 by omega);have a4:=dg (fun l=>aG al (az l)) 30000 c.cores (fun l hl=>iu _ _ _ (celN_inZ (r5 l hl)) (by rw[eJ];have:=m3 l hl;simp[al];omega));have a5:=mul6 30001 (show c.cores.length≤600 by omega);simp only[kZ,kq];omega
   ·split
    ·rw[dZ,di,kT,kT,kT];have a1:=iu cC [] 100 (fun n hn=>by simp at hn) (by simp[cC]);have a2:=dg (fun s:Nat=>aG bT [(s:Int)]) 100 c.sets (fun x hx=>iu _ _ _ (fun n hn=>by simp at hn;subst hn;exact fQ (r7 x hx)) (by simp[bT]));have a3:=mul6 101 (show c.sets.length≤600 by omega);have a4:=dg (fun p:Cpr=>aG ar [(p.s:Int),p.a,p.b]) 100 c.prs (fun p hp=>iu _ _ _ (fun n hn=>by simp at hn;rcases hn with rfl | rfl | rfl;exact fQ (r8 p hp).1;exact(r8 p hp).2.1;exact(r8 p hp).2.2) (by simp[ar]));have a5:=mul6 101 (show c.prs.length≤600 by omega);simp only[kZ,kq];omega
    ·split
     ·rw[dZ,kT,kT];have a1:=iu bD [(c.g.l:Int),(c.g.r:Int)] 100 (fun n hn=>by simp at hn;rcases hn with rfl | rfl;exact fQ r10;exact fQ r11) (by simp[bD])
      have a2:=dg (fun s=>aG bB (stN s)) 30000 c.steps (fun s hs=>iu _ _ _ (fun n hn=>by
       have q:=r9 s hs;unfold stN at hn;simp at hn
       rcases hn with rfl | rfl | rfl | hn
       ·exact q.1
       ·exact fQ q.2.2.1
       ·exact fQ q.2.2.2
       ·exact q.2.1 n hn) (by have:=m4 s hs;simp[stN,bB];omega))
      have a3:=mul6 30001 (show c.steps.length≤600 by omega);simp only[kZ,kq];omega
     ·simp[lnT]
 ·have a2:=dg ndL 30000 (bE c) hprf.2.2;have a3:=mul6 30001 hprf.2.1;omega
def bC(c:Cert):Cert :=
 if c.k=1 then { aF with k:=1,w:=c.w,del:=c.del,prf:=c.prf }
 else if c.k=2 then { aF with k:=2,cells:=c.cells,cores:=c.cores,upr:=c.upr }
 else if c.k=3 then { aF with k:=3,sets:=c.sets,prs:=c.prs }
 else if c.k=4 then { aF with k:=4,steps:=c.steps,g:=c.g }
 else { aF with k:=c.k }
theorem go_step{i:Nat}{c:Cert}{st:Nat}{x:List UInt8}{rest:List (List UInt8)}{w:List UInt8}{ns:List Int}{c':Cert}{st':Nat}(hi:0<i)(hr:rdL x=some (w,ns))(hw:w≠aT)(ha:ad c st w ns=some (c',st'))(h0:rest≠[]):goC i c st (x::rest)=goC (i+1) c' st' rest:=by
 cases rest with
 | nil=>exact absurd rfl h0
 | cons y r =>
  rw[goC,hr];simp only;rw[if_neg (fun h=>hw h.2.1),if_neg (by omega),ha]
theorem eW{α:Type}(line:α→List UInt8)(f:Cert→α→Cert)(P:Cert→Nat→Prop){rest:List (List UInt8)}(h0:rest≠[]):∀(xs:List α) (i:Nat) (c:Cert) (st:Nat),(∀c st,∀x∈xs,P c st→∃w ns st',rdL (line x)=some (w,ns)∧w≠aT∧ad c st w ns=some (f c x,st')∧P (f c x) st')→0<i→P c st→∃st',P (xs.foldl f c) st'∧goC i c st (xs.map line++rest)=goC (i+xs.length) (xs.foldl f c) st' rest
 | [],i,c,st,_,_,hp=>⟨st,hp,rfl⟩
 | x::xs,i,c,st,hs,hi,hp=>by
  obtain⟨w,ns,st1,e1,e2,e3,e4⟩:=hs c st x lB hp;obtain⟨st',p,e⟩:=eW line f P h0 xs (i+1) (f c x) st1 (fun c st y hy=>hs c st y (lE _ hy)) (by omega) e4;refine⟨st',p,?_⟩;rw[kj,kf,go_step hi e1 e2 e3 (by simp[h0]),e];rw[lU,kZ];congr 1;omega
theorem go_end{i:Nat}(c:Cert)(st:Nat)(hi:0<i):goC i c st [aT,[]]=(some c,0):=by
 have:rdL aT=some (aT,[]):=by
  have:=jG aT [] (by decide) (by simp);simpa[aG,du] using this
 rw[goC,this];show(if 0<i∧aT=aT∧([]:List Int).length=0 then(if([]:List (List UInt8))=[]∧([]:List UInt8)=[] then(some c,0) else(none,i+2)) else _)=_;rw[if_pos ⟨hi,rfl,rfl⟩,if_pos ⟨rfl,rfl⟩]
theorem fdel(xs:List Int):∀c:Cert,xs.foldl (fun c x=>{ c with del:=c.del++[x] }) c = { c with del:=c.del++xs }:=by
 induction xs with
 | nil=>intro c;simp
 | cons x xs ih=>intro c;rw[lU,ih];simp
theorem fcells(xs:List Cel):∀c:Cert,xs.foldl (fun c x=>{ c with cells:=c.cells++[x] }) c = { c with cells:=c.cells++xs }:=by
 induction xs with
 | nil=>intro c;simp
 | cons x xs ih=>intro c;rw[lU,ih];simp
theorem fcores(xs:List (List Cel)):∀c:Cert,xs.foldl (fun c x=>{ c with cores:=c.cores++[x] }) c = { c with cores:=c.cores++xs }:=by
 induction xs with
 | nil=>intro c;simp
 | cons x xs ih=>intro c;rw[lU,ih];simp
theorem fsets(xs:List Nat):∀c:Cert,xs.foldl (fun c x=>{ c with sets:=c.sets++[x] }) c = { c with sets:=c.sets++xs }:=by
 induction xs with
 | nil=>intro c;simp
 | cons x xs ih=>intro c;rw[lU,ih];simp
theorem fprs(xs:List Cpr):∀c:Cert,xs.foldl (fun c x=>{ c with prs:=c.prs++[x] }) c = { c with prs:=c.prs++xs }:=by
 induction xs with
 | nil=>intro c;simp
 | cons x xs ih=>intro c;rw[lU,ih];simp
theorem fsteps(xs:List Cst):∀c:Cert,xs.foldl (fun c x=>{ c with steps:=c.steps++[x] }) c = { c with steps:=c.steps++xs }:=by
 induction xs with
 | nil=>intro c;simp
 | cons x xs ih=>intro c;rw[lU,ih];simp
theorem fprf(xs:List Cnd):∀c:Cert,xs.foldl (fun c x=>{ c with prf:=c.prf++[x] }) c = { c with prf:=c.prf++xs }:=by
 induction xs with
 | nil=>intro c;simp
 | cons x xs ih=>intro c;rw[lU,ih];simp
theorem fupr(xs:List Cnd):∀c:Cert,xs.foldl (fun c x=>{ c with upr:=c.upr++[x] }) c = { c with upr:=c.upr++xs }:=by
 induction xs with
 | nil=>intro c;simp
 | cons x xs ih=>intro c;rw[lU,ih];simp
theorem iO{n:Nat}(h:n<4294967296):isS (n:Int):=by unfold isS;omega
theorem in_of{n:Nat}(h:n<4294967296):inI (n:Int):=by unfold inI;omega
theorem add_row{c:Cert}(x:Int)(hk:c.k=1):ad c 0 bR [x]=some ({ c with del:=c.del++[x] },0):=by
 unfold ad;rw[if_pos ⟨hk,rfl,rfl,rfl⟩];rfl
theorem add_cell{c:Cert}(x:Cel)(hk:c.k=2):ad c 0 ao (az [x])=some ({ c with cells:=c.cells++[x] },0):=by
 unfold ad;rw[if_neg (fun h=>by omega),if_pos ⟨hk,rfl,rfl,rfl⟩];rfl
theorem add_core{c:Cert}{st:Nat}(l:List Cel)(hk:c.k=2)(hs:st≤1):ad c st al (az l)=some ({ c with cores:=c.cores++[l] },1):=by
 unfold ad;rw[if_neg (fun h=>by omega),if_neg (fun h=>absurd h.2.1 (by decide)),if_pos ⟨hk,rfl,hs,celN_len l⟩,celP_N]
theorem add_set{c:Cert}(s:Nat)(hk:c.k=3)(h:s<4294967296):ad c 0 bT [(s:Int)]=some ({ c with sets:=c.sets++[s] },0):=by
 unfold ad;rw[if_neg (fun h=>by omega),if_neg (fun h=>by omega),if_neg (fun h=>by omega),if_pos ⟨hk,rfl,rfl,rfl,iO h⟩];rfl
theorem add_pair{c:Cert}{st:Nat}(p:Cpr)(hk:c.k=3)(h:p.s<4294967296):ad c st ar [(p.s:Int),p.a,p.b]=some ({ c with prs:=c.prs++[p] },1):=by
 unfold ad;rw[if_neg (fun h=>by omega),if_neg (fun h=>by omega),if_neg (fun h=>by omega),if_neg (fun h=>absurd h.2.1 (by decide)),if_pos ⟨hk,rfl,rfl,iO h⟩];rfl
theorem add_stp{c:Cert}{st:Nat}(s:Cst)(hk:c.k=4)(h1:s.d.l<4294967296)(h2:s.d.r<4294967296):ad c st bB (stN s)=some ({ c with steps:=c.steps++[s] },0):=by
 unfold ad;rw[if_neg (fun h=>by omega),if_neg (fun h=>by omega),if_neg (fun h=>by omega),if_neg (fun h=>by omega),if_neg (fun h=>by omega),if_pos ⟨hk,rfl,by simp[stN],iO h1,iO h2⟩];rfl
theorem nd_word{x:Cnd}(h:cL x=true)(hr:inI x.v∧∀s∈x.l,inI s.e∧inI s.a):∃w ns,rdL (ndL x)=some (w,ns)∧(w=au∨w=bc)∧aW w ns=some x:=by
 obtain⟨v,l⟩:=x;unfold ndL;by_cases hv:v = -1
 ·subst hv;rw[if_pos rfl];refine⟨bc,shN l,jG _ _ (by decide) (shN_in hr.2),.inr rfl,?_⟩;unfold aW;rw[if_neg (fun h=>absurd h.1 (by decide)),if_pos ⟨rfl,shN_len l⟩,shP_N]
 ·rw[if_neg hv]
  have:0≤v∧l=[]:=by simpa[cL,hv] using h
  obtain⟨h0,rfl⟩:=this;refine⟨au,[v],jG _ _ (by decide) (by simp;exact hr.1),.inl rfl,?_⟩;unfold aW;rw[if_pos ⟨rfl,rfl,h0⟩];rfl
theorem add_nd{c:Cert}{st:Nat}{w:List UInt8}{ns:List Int}{x:Cnd}(hw:w=au∨w=bc)(hx:aW w ns=some x):ad c st w ns=if c.k=1 then some ({ c with prf:=c.prf++[x] },2) else if c.k=2 then some ({ c with upr:=c.upr++[x] },2) else none:=by
 have n1:w≠bR:=by rcases hw with rfl | rfl<;>decide
 have n2:w≠ao:=by rcases hw with rfl | rfl<;>decide
 have n3:w≠al:=by rcases hw with rfl | rfl<;>decide
 have n4:w≠bT:=by rcases hw with rfl | rfl<;>decide
 have n5:w≠ar:=by rcases hw with rfl | rfl<;>decide
 have n6:w≠bB:=by rcases hw with rfl | rfl<;>decide
 unfold ad;rw[if_neg (fun h=>n1 h.2.1),if_neg (fun h=>n2 h.2.1),if_neg (fun h=>n3 h.2.1),if_neg (fun h=>n4 h.2.1),if_neg (fun h=>n5 h.2.1),if_neg (fun h=>n6 h.2.1),hx]
theorem ne_end{w:List UInt8}(hw:w=au∨w=bc):w≠aT:=by rcases hw with rfl | rfl<;>decide
theorem rd1{w:List UInt8}{ns:List Int}(hw:(32:UInt8)∉w)(hn:∀n∈ns,inI n):rdL (aG w ns)=some (w,ns):=jG w ns hw hn
theorem gn{x:List UInt8}{rest:List (List UInt8)}{w:List UInt8}{ns:List Int}{c c':Cert}(hr:rdL x=some (w,ns))(hf:ac w ns=some c')(h0:rest≠[]):goC 0 c 0 (x::rest)=goC 1 c' 0 rest:=by
 cases rest with
 | nil=>exact absurd rfl h0
 | cons y r =>
  rw[goC,hr];simp only;rw[if_neg (fun h=>by omega)];simp only[if_true,hf];rfl
theorem go_lines{c:Cert}(ok:okC c=true)(hr:okR c):goC 0 aF 0 (ak c++[[]])=(some (bC c),0):=by
 obtain⟨hk,hnd⟩:=iJ ok;obtain⟨r1,r2,r3,r4,r5,r6,r7,r8,r9,r10,r11⟩:=hr
 have E:∀{c c':Cert} {i st:Nat} ,0<i→c=c'→goC i c st ([aT]++[[]])=(some c',0):=fun hi e=>e▸go_end _ _ hi
 by_cases h1:c.k=1
 ·have el:ak c++[[]]=aG dM [c.w]::(c.del.map (fun i=>aG bR [i])++(c.prf.map ndL++([aT]++[[]]))):=by simp[ak,am,bE,h1]
  have hnd:∀x∈c.prf,cL x=true:=by simpa[bE,h1] using hnd
  rw[el,gn (rd1 (by decide) (by simpa using r2)) (c':={ aF with k:=1,w:=c.w }) rfl (by simp)]
  obtain⟨s1,p1,e1⟩:=eW (fun i=>aG bR [i]) (fun c x=>{ c with del:=c.del++[x] }) (fun c st=>c.k=1∧st=0) (rest:=c.prf.map ndL++([aT]++[[]])) (by simp) c.del 1 { aF with k:=1,w:=c.w } 0 (fun d st x hx hp=>by
   obtain⟨hk,rfl⟩:=hp
   exact⟨bR,[x],0,rd1 (by decide) (by simpa using r1 x hx),by decide,add_row x hk,hk,rfl⟩) (by omega) ⟨rfl,rfl⟩
  rw[e1,fdel]
  obtain⟨s2,p2,e2⟩:=eW ndL (fun c x=>{ c with prf:=c.prf++[x] }) (fun c st=>c.k=1) (rest:=[aT]++[[]]) (by simp) c.prf (1+c.del.length) { aF with k:=1,w:=c.w,del:=aF.del++c.del } s1 (fun d st x hx hp=>by
   obtain⟨w,ns,q1,q2,q3⟩:=nd_word (hnd x hx) (r3 x hx)
   exact⟨w,ns,2,q1,ne_end q2,by rw[add_nd q2 q3,if_pos hp],hp⟩) (by omega) rfl
  rw[e2,fprf];refine E (by omega) ?_;simp[bC,h1,aF]
 by_cases h2:c.k=2
 ·have el:ak c++[[]]=aG dG []::(c.cells.map (fun x=>aG ao (az [x]))++(c.cores.map (fun l=>aG al (az l))++(c.upr.map ndL++([aT]++[[]])))):=by simp[ak,am,bE,h2]
  have hnd:∀x∈c.upr,cL x=true:=by simpa[bE,h2] using hnd
  rw[el,gn (rd1 (by decide) (by simp)) (c':={ aF with k:=2 }) rfl (by simp)]
  obtain⟨s1,p1,e1⟩:=eW (fun x=>aG ao (az [x])) (fun c x=>{ c with cells:=c.cells++[x] }) (fun c st=>c.k=2∧st=0) (rest:=c.cores.map (fun l=>aG al (az l))++(c.upr.map ndL++([aT]++[[]]))) (by simp) c.cells 1 { aF with k:=2 } 0 (fun d st x hx hp=>by
   obtain⟨hk,rfl⟩:=hp
   exact⟨ao,az [x],0,rd1 (by decide) (jM (by simpa using r4 x hx)),by decide,add_cell x hk,hk,rfl⟩) (by omega) ⟨rfl,rfl⟩
  rw[e1,fcells]
  obtain⟨s2,p2,e2⟩:=eW (fun l=>aG al (az l)) (fun c x=>{ c with cores:=c.cores++[x] }) (fun c st=>c.k=2∧st≤1) (rest:=c.upr.map ndL++([aT]++[[]])) (by simp) c.cores (1+c.cells.length) { aF with k:=2,cells:=aF.cells++c.cells } s1 (fun d st x hx hp=>by
   obtain⟨hk,hs⟩:=hp
   exact⟨al,az x,1,rd1 (by decide) (jM (r5 x hx)),by decide,add_core x hk hs,hk,kY _⟩) (by omega) ⟨rfl,by omega⟩
  rw[e2,fcores]
  obtain⟨s3,p3,e3⟩:=eW ndL (fun c x=>{ c with upr:=c.upr++[x] }) (fun c st=>c.k=2) (rest:=[aT]++[[]]) (by simp) c.upr (1+c.cells.length+c.cores.length) { aF with k:=2,cells:=aF.cells++c.cells,cores:=aF.cores++c.cores } s2 (fun d st x hx hp=>by
   obtain⟨w,ns,q1,q2,q3⟩:=nd_word (hnd x hx) (r6 x hx)
   exact⟨w,ns,2,q1,ne_end q2,by rw[add_nd q2 q3,if_neg (by omega),if_pos hp],hp⟩) (by omega) rfl
  rw[e3,fupr];refine E (by omega) ?_;simp[bC,h2,aF]
 by_cases h3:c.k=3
 ·have el:ak c++[[]]=aG cC []::(c.sets.map (fun(s:Nat)=>aG bT [(s:Int)])++(c.prs.map (fun p=>aG ar [(p.s:Int),p.a,p.b])++([aT]++[[]]))):=by simp[ak,am,bE,h3]
  rw[el,gn (rd1 (by decide) (by simp)) (c':={ aF with k:=3 }) rfl (by simp)]
  obtain⟨s1,p1,e1⟩:=eW (fun(s:Nat)=>aG bT [(s:Int)]) (fun c x=>{ c with sets:=c.sets++[x] }) (fun c st=>c.k=3∧st=0) (rest:=c.prs.map (fun p=>aG ar [(p.s:Int),p.a,p.b])++([aT]++[[]])) (by simp) c.sets 1 { aF with k:=3 } 0 (fun d st x hx hp=>by
   obtain⟨hk,rfl⟩:=hp
   exact⟨bT,[(x:Int)],0,rd1 (by decide) (by simpa using in_of (r7 x hx)),by decide,add_set x hk (r7 x hx),hk,rfl⟩) (by omega) ⟨rfl,rfl⟩
  rw[e1,fsets]
  obtain⟨s2,p2,e2⟩:=eW (fun p=>aG ar [((Cpr.s p:Nat):Int),p.a,p.b]) (fun c x=>{ c with prs:=c.prs++[x] }) (fun c st=>c.k=3) (rest:=[aT]++[[]]) (by simp) c.prs (1+c.sets.length) { aF with k:=3,sets:=aF.sets++c.sets } s1 (fun d st x hx hp=>by
   obtain⟨q1,q2,q3⟩:=r8 x hx
   exact⟨ar,[(x.s:Int),x.a,x.b],1,rd1 (by decide) (by simpa using⟨in_of q1,q2,q3⟩),by decide,add_pair x hp q1,hp⟩) (by omega) rfl
  rw[e2,fprs];refine E (by omega) ?_;simp[bC,h3,aF]
 ·have h4:c.k=4:=by omega
  have el:ak c++[[]]=aG bD [(c.g.l:Int),(c.g.r:Int)]::(c.steps.map (fun s=>aG bB (stN s))++([aT]++[[]])):=by simp[ak,am,bE,h4]
  have hf:ac bD [(c.g.l:Int),(c.g.r:Int)]=some { aF with k:=4,g:=c.g }:=by
   unfold ac;rw[if_neg (fun h=>absurd h.1 (by decide)),if_neg (fun h=>absurd h.1 (by decide)),if_neg (fun h=>absurd h.1 (by decide)),if_pos ⟨rfl,rfl,iO r10,iO r11⟩];rfl
  rw[el,gn (rd1 (by decide) (by simpa using⟨in_of r10,in_of r11⟩)) hf (by simp)]
  obtain⟨s1,p1,e1⟩:=eW (fun s=>aG bB (stN s)) (fun c x=>{ c with steps:=c.steps++[x] }) (fun c st=>c.k=4) (rest:=[aT]++[[]]) (by simp) c.steps 1 { aF with k:=4,g:=c.g } 0 (fun d st x hx hp=>by
   obtain⟨q1,q2,q3,q4⟩:=r9 x hx;refine⟨bB,stN x,0,rd1 (by decide) ?_,by decide,add_stp x hp q3 q4,hp⟩;intro n hn;simp[stN]at hn
   rcases hn with rfl | rfl | rfl | hn
   ·exact q1
   ·exact in_of q3
   ·exact in_of q4
   ·exact q2 n hn) (by omega) rfl
  rw[e1,fsteps];refine E (by omega) ?_;simp[bC,h4,aF]
theorem br{ws:List UInt8}{ns:List Int}(h:(10:UInt8)∉ws):(10:UInt8)∉aG ws ns:=line_no10 ws ns h
theorem ndL_no10(x:Cnd):(10:UInt8)∉ndL x:=by
 unfold ndL;split
 ·exact br (by decide)
 ·exact br (by decide)
theorem lines_no10(c:Cert):∀l∈ak c,(10:UInt8)∉l:=by
 intro l hl;unfold ak at hl
 rcases List.mem_append.1 hl with hl | hl
 ·rcases List.mem_append.1 hl with hl | hl
  ·unfold am at hl;split at hl
   ·rcases List.mem_cons.1 hl with rfl | hl
    ·exact br (by decide)
    ·obtain⟨_,_,rfl⟩:=List.mem_map.1 hl;exact br (by decide)
   split at hl
   ·rcases List.mem_cons.1 hl with rfl | hl
    ·exact br (by decide)
    ·rcases List.mem_append.1 hl with hl | hl
     ·obtain⟨_,_,rfl⟩:=List.mem_map.1 hl;exact br (by decide)
     ·obtain⟨_,_,rfl⟩:=List.mem_map.1 hl;exact br (by decide)
   split at hl
   ·rcases List.mem_cons.1 hl with rfl | hl
    ·exact br (by decide)
    ·rcases List.mem_append.1 hl with hl | hl
     ·obtain⟨_,_,rfl⟩:=List.mem_map.1 hl;exact br (by decide)
     ·obtain⟨_,_,rfl⟩:=List.mem_map.1 hl;exact br (by decide)
   split at hl
   ·rcases List.mem_cons.1 hl with rfl | hl
    ·exact br (by decide)
    ·obtain⟨_,_,rfl⟩:=List.mem_map.1 hl;exact br (by decide)
   ·cases hl
  ·obtain⟨x,_,rfl⟩:=List.mem_map.1 hl;exact ndL_no10 x
 ·rw[List.mem_singleton.1 hl];decide
theorem spl_lines(c:Cert):spl 10 (lnT (ak c))=ak c++[[]]:=by
 rw[←iN]
 refine spl_join 10 _ (by simp) fun p hp=>?_
 rcases List.mem_append.1 hp with hp | hp
 ·exact lines_no10 c p hp
 ·rw[List.mem_singleton.1 hp];simp
theorem parse_fmt{c:Cert}(ok:okC c=true)(hr:okR c):bG (lnT (ak c))=(some (bC c),0):=by
 unfold bG;rw[spl_lines,go_lines ok hr]
theorem onlyC_ok{c:Cert}(ok:okC c=true)(hr:okR c):okC (bC c)=true∧okR (bC c):=by
 have:=fe (parse_fmt ok hr);exact⟨this.2.1,this.2.2.1⟩
theorem extra156:Go.Proofs.Builder.Extra Tryz.prog im:={
 sizeBuilder:=by kernel_rfl
 liesBuilder:=by kernel_rfl
 t5:=Tryz.underlying5
 a5:=Tryz.isAgg5
 z5:=Tryz.sizeOf5
 v5:=Tryz.zeroValue5
 infoByte:=by kernel_rfl
 cellsByte:=by kernel_rfl
 sizeByte:=by kernel_rfl
 neB5:=by decide
}
theorem join_k(f:Bool)(ls:List (List UInt8))(hl:ls.length≤100000000000)(hz:(lnT ls).length≤100000000000):ab Tryz.prog 35 [.lst 1 f (ls.map fun p=>.str (bs p)),.str (bs [10])] fun r=>r = .str (bs ([10].intercalate ls)):=by
 refine⟨⟨Tryz.f35,Tryz.func35,rfl,rfl⟩,fun F w vals hZ hF hsz hrel=>?_⟩;obtain⟨v0,v1,rfl⟩:=vals2 hsz;obtain rfl:=gc (hrel 1 _ v1 rfl rfl);have h0:=hrel 0 _ v0 rfl rfl
 have hbd:(bs ([10].intercalate ls)).size≤140737488355328:=by
  rw[aM]
  cases ls with
  | nil=>simp[lK,lL]
  | cons x l =>
   have:=congrArg List.length (jm (x::l) (by simp));rw[kT]at this;omega
 cases h0 with
 | lst _ _ _ A cap b off u hcap hfull hA hz2 hcell hr =>
  rw[lG]at hcap ⊢;by_cases hp:0<ls.length
  case neg =>
   obtain rfl:ls=[]:=List.length_eq_zero_iff.1 (by omega)
   exact(Go.Proofs.Any.strings_Join_none lays156 extra156 A cap (bs [10]) w).mono fun e w' ⟨h1,h2⟩=>⟨_,_,h1,.str _,.str _,by subst h2;exact Go.RowKit.Below.refl _ _,rfl⟩
  obtain⟨rfl,hP⟩:=hA (by simpa using hp);have hbk:b<w.heap.size:=hP.1
  have hc:∀(j:Nat) x,(ls.map bs)[j]?=some x→w.cell? ⟨b,off+j,none⟩=some (.string x):=fun j x hx=>by
   rw[ko,kx]at hx;obtain⟨p,hp2,rfl⟩:=hx
   have hx2:(ls.map fun p=>V.str (bs p))[j]?=some (.str (bs p)):=by simp[hp2]
   have g1:=hcell j _ 0 (.str (bs p)) hx2 rfl;have g2:=hr j _ 0 (.str (bs p)) hx2 rfl;rw[gc g2]at g1;simpa[AM.base] using g1
  have hm:(ls.map bs).map (·.data.toList)=ls:=by
   rw[mY]
   conv=>rhs;rw[←List.map_id ls]
   exact lg fun x _=>cy x
  have hj:Lib.join ((ls.map bs).map (·.data.toList)) (bs [10]).data.toList=[10].intercalate ls:=by rw[hm,cy];rfl
  have:=Go.Proofs.Any.strings_Join lays156 extra156 b off cap (ls.map bs) (bs [10]) w hc hbk (by rw[lG];omega) (by rw[lG];omega) (by rw[hj];rw[aM]at hbd;exact hbd);rw[hj,lG]at this
  exact this.mono fun e w' ⟨h1,h2⟩=>⟨_,_,h1,.str _,.str _,h2,rfl⟩
end
end Go.Proofs.YtdhgchekdkjcpaaGreatDoor
namespace Go.Proofs.YtdhgchekdkjcpaaGreatDoor
section
open Go Go.AM
theorem callHF{P:Program}{f:FuncId}{args args':List V}{H:List B}{K:V→List B→Prop}(k:Nat){e z:Nat}{xs:List V}{fz:Bool}(hk:H[k]?=some (.buf e z xs fz))(h:aq P f args' (H.set k (.buf e z xs true)) K)(hr:RepF (.buf k 0 xs.length xs.length) (.lst z false xs) args args'):
  af P (.fn f []) args H K:=by
 simp only[af,kp];refine⟨h.1,fun s vals hA hg hsz hrel=>?_⟩;obtain⟨rfl,hZ⟩:=hA;obtain⟨p1,p2,_⟩:=jr hg hk;have hl:=hr.len
 refine(h.2 (s.frz k (.buf e z xs true)) vals ⟨rfl,hZ.step p2⟩ p1 (by omega) (fun i b u hb hu=>?_)).mono fun e' w' ⟨u,s',r,a1,a2,a3,a4,a5,a6⟩=>⟨u,s',r,a1,a2,a3,p2.trans a4,a5,a6⟩
 have hx:args[i]?=some (args[i]'(by have:=getElem?_lt hb;omega)):=kR _;exact frz_rep hg hk (hrel i _ u hx hu) (hr.at_ i _ b hx hb)
end
end Go.Proofs.YtdhgchekdkjcpaaGreatDoor
namespace Go.Proofs.YtdhgchekdkjcpaaGreatDoor
section
open Go Go.AM Go.Lib
def wrH(C0:B)(ls:List (List UInt8))(R:List B):List B:=C0::B.cells [.buf 2 0 ls.length ls.length]::B.buf 9 1 (ls.map fun p=>.str (bs p)) false::R
theorem cN(C0:B)(ls:List (List UInt8))(R:List B):(wrH C0 ls R).length=R.length+3:=by simp[wrH]
theorem dF{C0:B}{R:List B}(hC:rbB (R.length+3) C0)(hR:∀bl∈R,rbB (R.length+3) bl)(ls:List (List UInt8)):∀bl∈wrH C0 ls R,rbB (wrH C0 ls R).length bl:=by
 rw[cN];intro bl hbl;unfold wrH at hbl
 rcases List.mem_cons.1 hbl with rfl | hbl
 ·exact hC
 rcases List.mem_cons.1 hbl with rfl | hbl
 ·simp
 rcases List.mem_cons.1 hbl with rfl | hbl
 ·simp
 ·exact hR _ hbl
theorem dL(C0:B)(R:List B)(hC:rbB (R.length+3) C0)(hR:∀bl∈R,rbB (R.length+3) bl)(ls:List (List UInt8))(w:List UInt8)(f:Bool)(ns:List Int)(hls:ls.length≤100000000)(hw:w.length≤100)(hl:ns.length≤1000000)(hn:∀n∈ns,inI n):
  aq Tryz.prog 54 [.ptr 1 0,.str (bs w),.lst 1 f (ns.map aD)] (wrH C0 ls R) fun r H'=>r = .tup []∧H'=wrH C0 (ls++[aG w ns]) R:=by
 have hT:=gh ns hn;refine aB tok Tryz.func54 rfl rfl ?_;refine wx ?_;simp -dsimp[Tryz.f54,kQ,wrH];refine aS (W_loopM 20 0xffc82 (by simp[mB]<;>rfl) (σ:=Nat) (fun i=>i≤ns.length) (fun i=>ns.length-i) (fun i=>[(1,.str (bs (aG w (ns.take i)))),(10,.int .i64 i)]) (fun _=>wrH C0 ls R) 0 (by simp) (by simp[aG,du]) (by simp[wrH]) (by simp[wrH]) ?_);rintro i hi N Q hN hQ;simp only[wrH]at hN hQ ⊢;have hT:=gh (ns.take i) (fun n h=>hn n (lb h))
 have hlt:(ns.take i).length≤1000000:=by rw[kg];omega
 have hw2:(aG w (ns.take i)).length≤22000000:=by unfold aG;rw[kT];omega
 by_cases hb:i<ns.length
 ·have hin:=hn _ (kW hb);have hil:=itoa_len hin;obtain⟨x,hx⟩:∃x,x=ns[i]:=⟨_,rfl⟩;have hx':=hx.symm;rw[hx']at hin hil;refine wx ?_;simp -dsimp[hb,hx',aD];refine cPx (gp x hin) (by simp) ?_;simp -dsimp[aC,aM,kF,aO i (by omega),(show 1+(itoa x).length≤9223372036854775807 by omega),(show(aG w (ns.take i)).length+(1+(itoa x).length)≤9223372036854775807 by omega),(show(aG w (ns.take i)).length+((itoa x).length+1)≤9223372036854775807 by omega),(show(itoa x).length+1≤9223372036854775807 by omega),(show(itoa x).length≤9223372036854775806 by omega)];refine hN (i+1) _ _ (by omega) (by omega) ?_ ⟨[],(kp _).symm⟩ ?_ ?_
  ·simp only[ap ns hb,←hx,lineT_snoc];simp
  ·simp
  ·exact dF hC hR ls
 ·have e:ns.take i=ns:=kV (by omega);rw[e]at hw2;refine wx ?_;simp -dsimp[hb,e];refine hQ _ _ _ ?_;simp -dsimp[(show ls.length≤9223372036854775806∧(ls.length+1)*16≤140737488355328 by omega),(show ls.length≤9223372036854775806 by omega),(show(ls.length+1)*16≤140737488355328 by omega)]
end
end Go.Proofs.YtdhgchekdkjcpaaGreatDoor
namespace Go.Proofs.YtdhgchekdkjcpaaGreatDoor
section
open Go Go.AM
def clA2:List V:=[.agg [.str ⟨#[114]⟩,.lst 1 false [.str ⟨#[97]⟩,.str ⟨#[98]⟩],.lst 2 false [.agg [.int .i64 1,.lst 3 false [.agg [.int .i64 1,.int .i64 1,.str ⟨#[]⟩],.agg [.int .i64 1,.int .i64 1,.str ⟨#[]⟩]]],.agg [.int .i64 2,.lst 3 false [.agg [.int .i64 1,.int .i64 1,.str ⟨#[]⟩],.agg [.int .i64 1,.int .i64 2,.str ⟨#[]⟩]]]]],.lst 18 true [.agg [.str ⟨#[102]⟩,.str ⟨#[114]⟩,.int .i64 1,.int .u32 1,.int .u32 2,.int .u32 0,.int .u32 0,.str ⟨#[]⟩,.nilS,.str ⟨#[]⟩,.nilS,.nilS,.int .i64 0,.nilS,.nilS,.nilS,.int .i64 0,.nilS]]]
def clR2:V:=.tup [.agg [.lst 1 false [.int .i64 1,.int .i64 2],.lst 1 false [.lst 1 false [.int .i64 1,.int .i64 2]]],.int .i64 0]
theorem clP2:AM.Pure clR2:=by simp[clR2]
theorem clQ2:∀a∈clA2,AM.Pure a:=by simp[clA2]
theorem cl2:ab Tryz.prog 131 clA2 fun x=>x=clR2:=aR tok mixed bZ dl (fuel:=1000) (d:=40) (by kernel_rfl) clP2
def clA8:List V:=[.str ⟨#[100,101,108,101,116,101,115,32,49,10,114,111,119,32,49,10,114,111,119,32,50,10,108,101,97,102,32,48,32,49,10,101,110,100,10]⟩]
def clR8:V:=.tup [.agg [.int .i64 1,.lst 1 false [.int .i64 1,.int .i64 2],.int .i64 1,.lst 2 false [.agg [.int .i64 (-1),.lst 2 false [.agg [.int .i64 0,.int .i64 1]]]],.nilS,.str ⟨#[]⟩,.nilS,.nilS,.nilS,.nilS,.nilS,.nilS,.nilS,.int .u32 0,.int .u32 0],.int .i64 0,.int .i64 0]
theorem clP8:AM.Pure clR8:=by simp[clR8]
theorem clQ8:∀a∈clA8,AM.Pure a:=by simp[clA8]
theorem cl8:ab Tryz.prog 7 clA8 fun x=>x=clR8:=aR tok mixed bZ dl (fuel:=1000) (d:=40) (by kernel_rfl) clP8
def clA1:List V:=[.str ⟨#[100,101,108,101,116,101,115,32,49,10,114,111,119,32,50,10,108,101,97,102,32,48,32,49,10,101,110,100,10]⟩]
def clR1:V:=.tup [.agg [.int .i64 1,.lst 1 false [.int .i64 2],.int .i64 1,.lst 2 false [.agg [.int .i64 (-1),.lst 2 false [.agg [.int .i64 0,.int .i64 1]]]],.nilS,.str ⟨#[]⟩,.nilS,.nilS,.nilS,.nilS,.nilS,.nilS,.nilS,.int .u32 0,.int .u32 0],.int .i64 0,.int .i64 0]
theorem clP1:AM.Pure clR1:=by simp[clR1]
theorem clQ1:∀a∈clA1,AM.Pure a:=by simp[clA1]
theorem cl1:ab Tryz.prog 7 clA1 fun x=>x=clR1:=aR tok mixed bZ dl (fuel:=1000) (d:=40) (by kernel_rfl) clP1
def clA0:List V:=[.agg [.int .u8 0,.int .u8 0,.lst 1 true [.lst 1 true [.int .u8 1,.int .u8 1],.lst 1 true [.int .u8 1,.int .u8 2]]],.int .i64 2]
def clR0:V:=.agg [.str ⟨#[114]⟩,.lst 1 false [.str ⟨#[97]⟩,.str ⟨#[98]⟩],.lst 2 false [.agg [.int .i64 1,.lst 3 false [.agg [.int .i64 1,.int .i64 1,.str ⟨#[]⟩],.agg [.int .i64 1,.int .i64 1,.str ⟨#[]⟩]]],.agg [.int .i64 2,.lst 3 false [.agg [.int .i64 1,.int .i64 1,.str ⟨#[]⟩],.agg [.int .i64 1,.int .i64 2,.str ⟨#[]⟩]]]]]
theorem clP0:AM.Pure clR0:=by simp[clR0]
theorem clQ0:∀a∈clA0,AM.Pure a:=by simp[clA0]
theorem cl0:ab Tryz.prog 17 clA0 fun x=>x=clR0:=aR tok mixed bZ dl (fuel:=1000) (d:=40) (by kernel_rfl) clP0
end
end Go.Proofs.YtdhgchekdkjcpaaGreatDoor
