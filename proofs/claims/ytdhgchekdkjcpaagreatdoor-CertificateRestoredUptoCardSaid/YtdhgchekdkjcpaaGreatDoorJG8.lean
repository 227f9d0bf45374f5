/- JG8: own texts of this seat, joined and shortened by pack4.py: Lay, K0, Kl, Bo, Bb, C1, Af, Ah. -/
import Derived.Test.YtdhgchekdkjcpaaGreatDoorJG6
import Derived.Test.YtdhgchekdkjcpaaGreatDoorJG7
import Derived.Test.YtdhgchekdkjcpaaGreatDoorRows
import Derived.Test.YtdhgchekdkjcpaaGreatDoorChecked
import Derived.ProofKit
import Derived.LaidMore
import Derived.Lay
import Derived.OpenShut
import Derived.Stop.Joined
import Derived.Stop.LaidErr
import Derived.Lib.LaidTab
import Derived.Shelf.Vars
import Derived.Shelf.Strconv.Itoa4
import Derived.Shelf.Strings.SplitShaped
import Derived.Shelf.Strings.OnBuilder
import Derived.Shelf.Strconv.ErrVarParseInt
import Derived.Laws.IdiomStrings
import Derived.Laws.BitsAllLaws
import Derived.Laws.BitsLemmas
import Derived.Laws.Externs
import Derived.Lib.Bytealg
set_option linter.unusedVariables false
set_option linter.unusedSimpArgs false
set_option maxRecDepth 100000
set_option maxHeartbeats 64000000
open Array renaming getElem?_toList→lS,getElem?_map→mA,range→mU
open List renaming replicate→kQ,getElem?_eq_getElem→kR,mem_of_getElem?→kS,range→ki,getElem?_set_ne→kn,getElem?_map→ko,append_nil→kp,getElem?_set_self→ku,getElem?_take→lA,drop_eq_getElem_cons→lH,getElem?_drop→lQ,mem_or_eq_of_mem_set→lq,mem_cons→mE,getElem_range→mJ
open Nat renaming le_refl→kY,zero_add→ld,zero_mul→lm
open Option renaming map_some→kv,map_eq_some_iff→kx
namespace Go.Proofs.YtdhgchekdkjcpaaGreatDoor
section
open Go.ChangeShapes Go.WideShapes Go.ChangeAt Go.WideMaps Go.WideElems Go.RowKit Go.AM
theorem own:ownKnob Tryz.prog.godebug=none:=by kernel_rfl
theorem laidOut:laidOutB Tryz.prog=true:=by kernel_rfl
theorem gTab:Tryz.prog.globalNamed "math/bits.deBruijn32tab" = some 6:=by kernel_rfl
theorem tTab:(Tryz.prog.globals[6]?).map (·.type)=some 357:=by kernel_rfl
theorem gPow:Tryz.prog.globalNamed "internal/strconv.uint64pow10" = some 3:=by kernel_rfl
theorem tPow:(Tryz.prog.globals[3]?).map (·.type)=some 285:=by kernel_rfl
theorem gMax:Tryz.prog.globalNamed "internal/bytealg.MaxLen" = some 0:=by kernel_rfl
theorem gSyn:Tryz.prog.globalNamed "strconv.ErrSyntax" = some 1:=by kernel_rfl
theorem gRng:Tryz.prog.globalNamed "strconv.ErrRange" = some 2:=by kernel_rfl
def laid1:List (String×DataW Unit):=[("math/bits.deBruijn32tab",Rows.laid_math_bits_deBruijn32tab),("math/bits.deBruijn64tab",Rows.laid_math_bits_deBruijn64tab),("internal/strconv.uint64pow10",Rows.laid_internal_strconv_uint64pow10),("unicode/utf8.acceptRanges",Rows.laid_unicode_utf8_acceptRanges),("strconv.ErrRange",Rows.laid_strconv_ErrRange),("strconv.ErrSyntax",Rows.laid_strconv_ErrSyntax),("unicode/utf8.first",Rows.laid_unicode_utf8_first)]
noncomputable def w0(os:Os):World:=World.laidAll Tryz.prog os laid1
theorem door_met(os:Os)(args:Array Value):laidMetH Tryz.prog laid1 ((w0 os).forCall (fun _ _=>0) ⟨#[],args,[]⟩).memory:=by
 rw[MakeChecks.laidMetH_plain _ _ _ (by kernel_rfl)];exact laidMet_laidAll _ (by kernel_rfl) (by kernel_rfl)
theorem of_var{W:World}{n:String}{g:Nat}{cs:Array Value}(hg:Tryz.prog.globalNamed n=some g)(h:W.var? Tryz.prog n=some cs):∃t m,W.heap[g]?=some (.cells cs t m):=by
 unfold World.var? at h;rw[hg]at h;simp only[Option.bind_some]at h;split at h
 ·rename_i cs' t m hh;cases h;exact⟨_,_,hh⟩
 ·cases h
theorem of_laid{W:World}{r:List (String×DataW Unit)}(h:laidMet Tryz.prog (("math/bits.deBruijn32tab",Rows.laid_math_bits_deBruijn32tab)::r) W):∃cs t m,W.heap[6]?=some (.cells cs t m)∧bitsC cs:=by
 obtain⟨ps,⟨g0,t0,cs0,f0,p0,q0,hg0,ht0,hv0,hd0,_,_⟩,_,_⟩:=h;obtain rfl:=Option.some.inj (gTab.symm.trans hg0);obtain rfl:=Option.some.inj (tTab.symm.trans ht0);obtain⟨xs,m1,rfl,hx1,hlen,hn3,hel⟩:=DataW.trod_array Tryz.underlying357 hd0
 have c5:Tryz.prog.cellsOf 5=1:=by kernel_rfl
 simp only[Prod.mk.injEq,Rows.laid_math_bits_deBruijn32tab,DataW.agg.injEq]at hx1;obtain⟨t,m,hh⟩:=of_var gTab hv0;refine⟨cs0,t,m,hh,?_⟩;intro i x hx
 have hi:i<32:=by have:=getElem?_lt hx;simpa[dp] using this
 have h1:=hel i hi;rw[c5,Nat.mul_one,kR (by omega)]at h1;obtain⟨k,e1,e2,_⟩:=DataW.trod_int Tryz.underlying5 h1
 have hk:k=x:=by
  have hl:(dp.map fun y=>DataW.lit (.int .u8 y))=xs.map (·.1):=hx1.1;have h3:=congrArg (fun l=>l[i]?) hl;simp only[ko,kR (show i<xs.length by omega),kv,hx,e2,Option.some.injEq,DataW.lit.injEq,Lit.int.injEq,true_and]at h3;exact h3.symm
 subst hk;have e3:(cs0.toList.drop i).take 1=[.int .u8 k]:=e1
 have:cs0.toList[i]?=some (.int .u8 k):=by
  have h4:=congrArg (fun l=>l[0]?) e3;simpa[lA,lQ] using h4
 simpa using this
theorem star : "*"++ "errors.errorString" = "*errors.errorString":=by decide
theorem err_row(u:TypeId)(h:Tryz.prog.typeName? 3 u=some "*errors.errorString"):u=324 :=
 typeName_ptr_named (nm:= "errors.errorString") (by rw[star];kernel_rfl) (by kernel_rfl) (by decide) u (by rw[star];exact h)
theorem of_err{W:World}{n:String}{g:Nat}{text:List UInt8}{r:List (String×DataW Unit)}(hg:Tryz.prog.globalNamed n=some g)(ht:(Tryz.prog.globals[g]?).map (·.type)=some 124)(h:laidMet Tryz.prog ((n,.iface "*errors.errorString" (.ptr (.agg [.lit (.string text)])))::r) W):∃cs t m,W.heap[g]?=some (.cells cs t m)∧errC cs:=by
 obtain⟨a,s,hv,_,_,_⟩:=laid_sentinel h hg ht Tryz.underlying124 err_row Tryz.underlying324 Tryz.underlying326 rfl rfl Tryz.underlying9 (by kernel_rfl) (by kernel_rfl);obtain⟨t,m,hh⟩:=of_var hg hv;exact⟨_,t,m,hh,_,rfl,.inr ⟨_,_,rfl⟩⟩
theorem of_pow{W:World}{r:List (String×DataW Unit)}(h:laidMet Tryz.prog (("internal/strconv.uint64pow10",Rows.laid_internal_strconv_uint64pow10)::r) W):∃cs t m,W.heap[3]?=some (.cells cs t m)∧pow10C cs:=by
 have hv:Lib.TabIs Tryz.prog W "internal/strconv.uint64pow10" .u64 Lib.pow10Tab:=Lib.tabIs_of_head (n:=20) gPow tPow Tryz.underlying285 (e:=219) Tryz.underlying219 (by kernel_rfl) (by kernel_rfl) (rest:=r) h;obtain⟨t,m,hh⟩:=of_var gPow hv;exact⟨_,t,m,hh,rfl⟩
theorem of_max{W:World}(h:W.ShapedOpen Tryz.prog):∃cs t m,W.heap[0]?=some (.cells cs t m)∧maxLenC cs:=by
 obtain⟨m,hm⟩:=cell_of_shapedOpen_int (P:=Tryz.prog) (g:=0) (t:=3) (zero:=#[.int .i64 0]) h (of_decide_eq_true (by kernel_rfl)) (by kernel_rfl) rfl (by kernel_rfl) (by kernel_rfl) Tryz.underlying3;unfold World.cell? at hm;split at hm
 ·rename_i cs t mm hh;exact⟨cs,t,mm,hh,m,by simpa using hm⟩
 ·cases hm
theorem gok{W:World}(h:laidMetH Tryz.prog laid1 W)(hs:W.ShapedOpen Tryz.prog):GOk Tryz.prog (AM.base (fun _=>False) W):=fun e he g hg=>by
 rw[MakeChecks.laidMetH_plain _ _ _ (by kernel_rfl)]at h
 have key:∀{g:Nat} {C:Array Value→Prop},(∃cs t m,W.heap[g]?=some (.cells cs t m)∧C cs)→(AM.base (fun _=>False) W).Prot g∧∃cs t m,(AM.base (fun _=>False) W).w.heap[g]?=some (.cells cs t m)∧C cs:=fun⟨cs,t,m,hh,hc⟩=>
  ⟨⟨(Array.getElem?_eq_some_iff.1 hh).1,fun h=>h,fun k hk=>by have:=hk.1;simp[AM.base]at this⟩,cs,t,m,hh,hc⟩
 simp only[gLib,mE,List.mem_nil_iff,or_false]at he
 rcases he with rfl | rfl | rfl | rfl | rfl
 ·obtain rfl:=Option.some.inj (gTab.symm.trans hg);exact key (of_laid h)
 ·obtain rfl:=Option.some.inj (gPow.symm.trans hg);exact key (of_pow h.tail.tail)
 ·obtain rfl:=Option.some.inj (gMax.symm.trans hg);exact key (of_max hs)
 ·obtain rfl:=Option.some.inj (gSyn.symm.trans hg);exact key (of_err gSyn (by kernel_rfl) h.tail.tail.tail.tail.tail)
 ·obtain rfl:=Option.some.inj (gRng.symm.trans hg);exact key (of_err gRng (by kernel_rfl) h.tail.tail.tail.tail)
theorem cells_ok:∀t i,T t=some i→Tryz.prog.cellsOf t=i.size:=fun t i hi=>by
 obtain⟨inf,h1,h2,_⟩:=tok.info t i hi;simp[Program.cellsOf,h1,h2]
end
end Go.Proofs.YtdhgchekdkjcpaaGreatDoor
namespace Go.Proofs.YtdhgchekdkjcpaaGreatDoor
section
open Go Go.AM
theorem mixed:Tryz.prog.follows .mixedOrders=true:=by kernel_rfl
theorem wx{c:Code}{Q:Exit→List V→List B→Prop}{fr:List V}{H:List B}(h:WX T (af Tryz.prog) (LW Tryz.prog) c Q fr H):W Tryz.prog c Q fr H:=W_x tok mixed h
theorem sPx{f:FuncId}{fn:Func}{c:Code}(hf:Tryz.prog.funcs[f]?=some fn)(hb:fn.body=some c)(hn:(fn.name == "runtime.NumGoroutine")=false){args:List V}{K:V→Prop}(h:WX T (af Tryz.prog) (LW Tryz.prog) c (retQ T fn.results.toList fun r H=>∃r',Exp H r r'∧AM.Pure r'∧K r') (args++kQ (fn.ntmps-args.length) (.tup [])) []):ab Tryz.prog f args K:=cm (aB tok hf hb hn (wx h))
def aD(n:Int):V:=.int .i64 n
def L1(f:Bool)(xs:List Int):V:=.lst 1 f (xs.map aD)
@[simp] theorem encI_pure (n:Int):AM.Pure (aD n):=by simp[aD]
@[simp] theorem L1_pure (f:Bool) (xs:List Int):AM.Pure (L1 f xs):=by simp[L1,aD]
@[simp] theorem encI_oneV (n:Int):fq (aD n)=true:=rfl
@[simp] theorem L1_oneV (f:Bool) (xs:List Int):fq (L1 f xs)=true:=rfl
theorem aa{n:Int}(h1 : -9223372036854775808≤n)(h2:n<9223372036854775808):IntKind.i64.wrap n=n:=by rw[IntKind.wrap_i64];omega
theorem aO(i:Nat)(h:i<9223372036854775807):IntKind.i64.wrap ((i:Int)+1)=((i+1:Nat):Int):=by rw[aa (by omega) (by omega)];rfl
theorem wrapP(i:Nat)(h:i<9223372036854775807)(h1:1≤i):IntKind.i64.wrap ((i:Int)-1)=((i-1:Nat):Int):=by rw[aa (by omega) (by omega)];omega
theorem wrapN(n:Nat)(h:n<9223372036854775807):IntKind.i64.wrap (n:Int)=n:=aa (by omega) (by omega)
theorem cap8(n:Nat)(h:n≤1000000000):n≤9223372036854775806∧(n+1)*8≤140737488355328:=by omega
theorem fx(n:Nat)(h:n≤1000000000):n≤9223372036854775806∧(n+1)*16≤140737488355328:=by omega
theorem cap24(n:Nat)(h:n≤1000000000):n≤9223372036854775806∧(n+1)*24≤140737488355328:=by omega
theorem wcm{P:Program}{f:FuncId}{args:List V}{H:List B}{K K':V→List B→Prop}(h:aq P f args H K)(hk:∀r H',K r H'→K' r H'):af P (.fn f []) args H K':=by
 simp only[af,kp];exact h.mono hk
theorem wcE{P:Program}{f:FuncId}{args:List V}{H H0:List B}{r0:V}{K:V→List B→Prop}(h:aq P f args H fun r H'=>r=r0∧H'=H0)(hk:K r0 H0):af P (.fn f []) args H K :=
 wcm h fun _ _ hh=>hh.1▸hh.2▸hk
structure Vl where
 k:Int
 n:Int
 s:ByteArray
def encV(v:Vl):V:=.agg [.int .i64 v.k,.int .i64 v.n,.str v.s]
def LV(f:Bool)(vs:List Vl):V:=.lst 3 f (vs.map encV)
@[simp] theorem encV_pure (v:Vl):AM.Pure (encV v):=by simp[encV]
@[simp] theorem LV_pure (f:Bool) (vs:List Vl):AM.Pure (LV f vs):=by simp[LV]
@[simp] theorem encV_oneV (v:Vl):fq (encV v)=true:=rfl
def LS(f:Bool)(ss:List ByteArray):V:=.lst 1 f (ss.map V.str)
@[simp] theorem LS_pure (f:Bool) (ss:List ByteArray):AM.Pure (LS f ss):=by simp[LS]
structure Rw where
 id:Int
 vals:List Vl
structure Tb where
 name:ByteArray
 attrs:List ByteArray
 rows:List Rw
def kB(r:Rw):V:=.agg [.int .i64 r.id,LV false r.vals]
def LR(g:Bool)(rs:List Rw):V:=.lst 2 g (rs.map kB)
def encTb(f g:Bool)(t:Tb):V:=.agg [.str t.name,LS f t.attrs,LR g t.rows]
@[simp] theorem encRw_pure (r:Rw):AM.Pure (kB r):=by simp[kB]
@[simp] theorem LR_pure (g:Bool) (rs:List Rw):AM.Pure (LR g rs):=by simp[LR]
@[simp] theorem encTb_pure (f g:Bool) (t:Tb):AM.Pure (encTb f g t):=by simp[encTb]
@[simp] theorem encRw_oneV (r:Rw):fq (kB r)=true:=rfl
structure Fd where
 l:Nat
 r:Nat
def encF(d:Fd):V:=.agg [.int .u32 (d.l:Int),.int .u32 (d.r:Int)]
@[simp] theorem encF_pure (d:Fd):AM.Pure (encF d):=by simp[encF]
@[simp] theorem encF_oneV (d:Fd):fq (encF d)=true:=rfl
end
end Go.Proofs.YtdhgchekdkjcpaaGreatDoor
namespace Go.Proofs.YtdhgchekdkjcpaaGreatDoor
section
open Go
def lays173_ren:Go.Shelf.Ren:=⟨fun | 173=>42 | 246=>74 | 283=>117 | 284=>118 | 285=>119 | 286=>120 | 129=>182 | 317=>181 | 318=>183 | 319=>184 | 320=>185 | 337=>224 | 338=>225 | n=>n,fun | 2=>2 | 3=>3 | 9=>9 | 4=>4 | 171=>227 | 0=>0 | 53=>219 | 37=>57 | 5=>5 | 173=>230 | 212=>285 | 51=>38 | 20=>20 | 213=>286 | 46=>222 | 232=>357 | 233=>358 | n=>n,fun | 17=>3 | 18=>6 | 19=>7 | n=>n⟩
theorem lays173:Go.Proofs.LaysM.n173 Tryz.prog lays173_ren:={
 mixed:=by kernel_rfl
 f129:=Tryz.func182.trans (congrArg some (by kernel_rfl))
 f173:=Tryz.func42.trans (congrArg some (by kernel_rfl))
 f246:=Tryz.func74.trans (congrArg some (by kernel_rfl))
 f283:=Tryz.func117.trans (congrArg some (by kernel_rfl))
 f284:=Tryz.func118.trans (congrArg some (by kernel_rfl))
 f285:=Tryz.func119.trans (congrArg some (by kernel_rfl))
 f286:=Tryz.func120.trans (congrArg some (by kernel_rfl))
 f317:=Tryz.func181.trans (congrArg some (by kernel_rfl))
 f318:=Tryz.func183.trans (congrArg some (by kernel_rfl))
 f319:=Tryz.func184.trans (congrArg some (by kernel_rfl))
 f320:=Tryz.func185.trans (congrArg some (by kernel_rfl))
 f337:=Tryz.func224.trans (congrArg some (by kernel_rfl))
 f338:=Tryz.func225.trans (congrArg some (by kernel_rfl))
 t0:=Tryz.underlying0
 a0:=Tryz.isAgg0
 z0:=Tryz.sizeOf0
 v0:=Tryz.zeroValue0
 t2:=Tryz.underlying2
 a2:=Tryz.isAgg2
 z2:=Tryz.sizeOf2
 v2:=Tryz.zeroValue2
 t3:=Tryz.underlying3
 a3:=Tryz.isAgg3
 z3:=Tryz.sizeOf3
 v3:=Tryz.zeroValue3
 t4:=Tryz.underlying4
 a4:=Tryz.isAgg4
 z4:=Tryz.sizeOf4
 v4:=Tryz.zeroValue4
 t5:=Tryz.underlying5
 a5:=Tryz.isAgg5
 z5:=Tryz.sizeOf5
 v5:=Tryz.zeroValue5
 t9:=Tryz.underlying9
 a9:=Tryz.isAgg9
 z9:=Tryz.sizeOf9
 v9:=Tryz.zeroValue9
 t20:=Tryz.underlying20
 a20:=Tryz.isAgg20
 z20:=Tryz.sizeOf20
 v20:=Tryz.zeroValue20
 t37:=Tryz.underlying57
 a37:=Tryz.isAgg57
 z37:=Tryz.sizeOf57
 v37:=Tryz.zeroValue57
 t46:=Tryz.underlying222
 a46:=Tryz.isAgg222
 z46:=Tryz.sizeOf222
 v46:=Tryz.zeroValue222
 t51:=Tryz.underlying38
 a51:=Tryz.isAgg38
 z51:=Tryz.sizeOf38
 v51:=Tryz.zeroValue38
 t53:=Tryz.underlying219
 a53:=Tryz.isAgg219
 z53:=Tryz.sizeOf219
 v53:=Tryz.zeroValue219
 t171:=Tryz.underlying227
 a171:=Tryz.isAgg227
 z171:=Tryz.sizeOf227
 v171:=Tryz.zeroValue227
 t173:=Tryz.underlying230
 a173:=Tryz.isAgg230
 z173:=Tryz.sizeOf230
 v173:=Tryz.zeroValue230
 t212:=Tryz.underlying285
 a212:=Tryz.isAgg285
 z212:=Tryz.sizeOf285
 v212:=Tryz.zeroValue285
 t213:=Tryz.underlying286
 a213:=Tryz.isAgg286
 z213:=Tryz.sizeOf286
 t232:=Tryz.underlying357
 a232:=Tryz.isAgg357
 z232:=Tryz.sizeOf357
 v232:=Tryz.zeroValue357
 t233:=Tryz.underlying358
 a233:=Tryz.isAgg358
 z233:=Tryz.sizeOf358
 v233:=Tryz.zeroValue358
 g17:=by kernel_rfl
 g18:=by kernel_rfl
 g19:=by kernel_rfl
 i0:=by kernel_rfl
 i2:=by kernel_rfl
 i3:=by kernel_rfl
 i4:=by kernel_rfl
 i5:=by kernel_rfl
 i9:=by kernel_rfl
 i20:=by kernel_rfl
 i37:=by kernel_rfl
 i46:=by kernel_rfl
 i51:=by kernel_rfl
 i53:=by kernel_rfl
 i171:=by kernel_rfl
 i173:=by kernel_rfl
 i212:=by kernel_rfl
 i232:=by kernel_rfl
 i233:=by kernel_rfl
 m17:=by kernel_rfl
 m18:=by kernel_rfl
 m19:=by kernel_rfl
 }
def dB:Go.Shelf.Ren:=⟨fun | 146=>19 | 221=>40 | 268=>71 | 138=>37 | 143=>64 | 195=>62 | 197=>111 | 218=>63 | 219=>83 | 260=>175 | 217=>127 | 225=>128 | 224=>129 | 267=>130 | 266=>188 | 314=>189 | n=>n,fun | 9=>9 | 31=>28 | 3=>3 | 4=>4 | 0=>0 | 105=>216 | 21=>21 | 5=>5 | 46=>222 | 119=>320 | 139=>323 | 138=>322 | 146=>289 | 51=>38 | n=>n,fun | 1=>0 | 3=>4 | 4=>5 | n=>n⟩
theorem lays146:Go.Proofs.Lays.n146 Tryz.prog dB:={
 mixed:=by kernel_rfl
 f138:=Tryz.func37.trans (congrArg some (by kernel_rfl))
 f143:=Tryz.func64.trans (congrArg some (by kernel_rfl))
 f146:=Tryz.func19.trans (congrArg some (by kernel_rfl))
 f195:=Tryz.func62.trans (congrArg some (by kernel_rfl))
 f197:=Tryz.func111.trans (congrArg some (by kernel_rfl))
 f217:=Tryz.func127.trans (congrArg some (by kernel_rfl))
 f218:=Tryz.func63.trans (congrArg some (by kernel_rfl))
 f219:=Tryz.func83.trans (congrArg some (by kernel_rfl))
 f221:=Tryz.func40.trans (congrArg some (by kernel_rfl))
 f224:=Tryz.func129.trans (congrArg some (by kernel_rfl))
 f225:=Tryz.func128.trans (congrArg some (by kernel_rfl))
 f260:=Tryz.func175.trans (congrArg some (by kernel_rfl))
 f266:=Tryz.func188.trans (congrArg some (by kernel_rfl))
 f267:=Tryz.func130.trans (congrArg some (by kernel_rfl))
 f268:=Tryz.func71.trans (congrArg some (by kernel_rfl))
 f314:=Tryz.func189.trans (congrArg some (by kernel_rfl))
 t0:=Tryz.underlying0
 a0:=Tryz.isAgg0
 z0:=Tryz.sizeOf0
 v0:=Tryz.zeroValue0
 t3:=Tryz.underlying3
 a3:=Tryz.isAgg3
 z3:=Tryz.sizeOf3
 v3:=Tryz.zeroValue3
 t4:=Tryz.underlying4
 a4:=Tryz.isAgg4
 z4:=Tryz.sizeOf4
 v4:=Tryz.zeroValue4
 t5:=Tryz.underlying5
 a5:=Tryz.isAgg5
 z5:=Tryz.sizeOf5
 v5:=Tryz.zeroValue5
 t9:=Tryz.underlying9
 a9:=Tryz.isAgg9
 z9:=Tryz.sizeOf9
 v9:=Tryz.zeroValue9
 t21:=Tryz.underlying21
 a21:=Tryz.isAgg21
 z21:=Tryz.sizeOf21
 v21:=Tryz.zeroValue21
 t31:=Tryz.underlying28
 a31:=Tryz.isAgg28
 z31:=Tryz.sizeOf28
 v31:=Tryz.zeroValue28
 t46:=Tryz.underlying222
 a46:=Tryz.isAgg222
 z46:=Tryz.sizeOf222
 v46:=Tryz.zeroValue222
 t51:=Tryz.underlying38
 a51:=Tryz.isAgg38
 z51:=Tryz.sizeOf38
 v51:=Tryz.zeroValue38
 t105:=Tryz.underlying216
 a105:=Tryz.isAgg216
 z105:=Tryz.sizeOf216
 v105:=Tryz.zeroValue216
 t119:=Tryz.underlying320
 a119:=Tryz.isAgg320
 z119:=Tryz.sizeOf320
 t138:=Tryz.underlying322
 a138:=Tryz.isAgg322
 z138:=Tryz.sizeOf322
 v138:=Tryz.zeroValue322
 t139:=Tryz.underlying323
 a139:=Tryz.isAgg323
 z139:=Tryz.sizeOf323
 v139:=Tryz.zeroValue323
 t146:=Tryz.underlying289
 a146:=Tryz.isAgg289
 z146:=Tryz.sizeOf289
 v146:=Tryz.zeroValue289
 g1:=by kernel_rfl
 g3:=by kernel_rfl
 g4:=by kernel_rfl
 }
def im:Go.Shelf.Ren:=⟨fun | 156=>35 | 165=>57 | 166=>58 | 169=>59 | 240=>80 | 241=>81 | 276=>125 | 277=>126 | n=>n,fun | 31=>28 | 9=>9 | 3=>3 | 4=>4 | 0=>0 | 20=>20 | 72=>147 | 76=>149 | 70=>145 | 37=>57 | 75=>124 | 127=>174 | 164=>235 | 5=>5 | 80=>151 | n=>n,fun | n=>n⟩
theorem lays156:Go.Proofs.Lays.n156 Tryz.prog im:={
 mixed:=by kernel_rfl
 f156:=Tryz.func35.trans (congrArg some (by kernel_rfl))
 f165:=Tryz.func57.trans (congrArg some (by kernel_rfl))
 f166:=Tryz.func58.trans (congrArg some (by kernel_rfl))
 f169:=Tryz.func59.trans (congrArg some (by kernel_rfl))
 f240:=Tryz.func80.trans (congrArg some (by kernel_rfl))
 f241:=Tryz.func81.trans (congrArg some (by kernel_rfl))
 f276:=Tryz.func125.trans (congrArg some (by kernel_rfl))
 f277:=Tryz.func126.trans (congrArg some (by kernel_rfl))
 t0:=Tryz.underlying0
 a0:=Tryz.isAgg0
 z0:=Tryz.sizeOf0
 v0:=Tryz.zeroValue0
 t3:=Tryz.underlying3
 a3:=Tryz.isAgg3
 z3:=Tryz.sizeOf3
 v3:=Tryz.zeroValue3
 t4:=Tryz.underlying4
 a4:=Tryz.isAgg4
 z4:=Tryz.sizeOf4
 v4:=Tryz.zeroValue4
 t9:=Tryz.underlying9
 a9:=Tryz.isAgg9
 z9:=Tryz.sizeOf9
 v9:=Tryz.zeroValue9
 t20:=Tryz.underlying20
 a20:=Tryz.isAgg20
 z20:=Tryz.sizeOf20
 v20:=Tryz.zeroValue20
 t31:=Tryz.underlying28
 a31:=Tryz.isAgg28
 z31:=Tryz.sizeOf28
 v31:=Tryz.zeroValue28
 t37:=Tryz.underlying57
 a37:=Tryz.isAgg57
 z37:=Tryz.sizeOf57
 v37:=Tryz.zeroValue57
 t70:=Tryz.underlying145
 a70:=Tryz.isAgg145
 z70:=Tryz.sizeOf145
 v70:=Tryz.zeroValue145
 t72:=Tryz.underlying147
 a72:=Tryz.isAgg147
 z72:=Tryz.sizeOf147
 v72:=Tryz.zeroValue147
 t75:=Tryz.underlying124
 a75:=Tryz.isAgg124
 z75:=Tryz.sizeOf124
 v75:=Tryz.zeroValue124
 t76:=Tryz.underlying149
 a76:=Tryz.isAgg149
 z76:=Tryz.sizeOf149
 v76:=Tryz.zeroValue149
 t127:=Tryz.underlying174
 a127:=Tryz.isAgg174
 z127:=Tryz.sizeOf174
 v127:=Tryz.zeroValue174
 t164:=Tryz.underlying235
 a164:=Tryz.isAgg235
 z164:=Tryz.sizeOf235
 v164:=Tryz.zeroValue235
 }
def fI:Go.Shelf.Ren:=⟨fun | 174=>41 | 247=>72 | 245=>73 | 287=>112 | 279=>113 | 280=>114 | 281=>115 | 282=>116 | 321=>176 | 322=>177 | 316=>178 | 171=>180 | 205=>179 | 243=>223 | 246=>74 | 283=>117 | 284=>118 | 285=>119 | 286=>120 | 129=>182 | 317=>181 | 318=>183 | 319=>184 | 320=>185 | 337=>224 | 338=>225 | n=>n,fun | 9=>9 | 3=>3 | 2=>2 | 75=>124 | 85=>125 | 4=>4 | 167=>218 | 5=>5 | 53=>219 | 175=>220 | 46=>222 | 168=>223 | 37=>57 | 0=>0 | 210=>282 | 21=>21 | 127=>174 | 145=>326 | 143=>324 | 171=>227 | 173=>230 | 212=>285 | 51=>38 | 20=>20 | 213=>286 | 232=>357 | 233=>358 | 80=>151 | n=>n,fun | 15=>1 | 16=>2 | 17=>3 | 18=>6 | 19=>7 | n=>n⟩
theorem lays174:Go.Proofs.LaysC.n174 Tryz.prog fI:={
 mixed:=by kernel_rfl
 f129:=Tryz.func182.trans (congrArg some (by kernel_rfl))
 f171:=Tryz.func180.trans (congrArg some (by kernel_rfl))
 f174:=Tryz.func41.trans (congrArg some (by kernel_rfl))
 f205:=Tryz.func179.trans (congrArg some (by kernel_rfl))
 f243:=Tryz.func223.trans (congrArg some (by kernel_rfl))
 f245:=Tryz.func73.trans (congrArg some (by kernel_rfl))
 f246:=Tryz.func74.trans (congrArg some (by kernel_rfl))
 f247:=Tryz.func72.trans (congrArg some (by kernel_rfl))
 f279:=Tryz.func113.trans (congrArg some (by kernel_rfl))
 f280:=Tryz.func114.trans (congrArg some (by kernel_rfl))
 f281:=Tryz.func115.trans (congrArg some (by kernel_rfl))
 f282:=Tryz.func116.trans (congrArg some (by kernel_rfl))
 f283:=Tryz.func117.trans (congrArg some (by kernel_rfl))
 f284:=Tryz.func118.trans (congrArg some (by kernel_rfl))
 f285:=Tryz.func119.trans (congrArg some (by kernel_rfl))
 f286:=Tryz.func120.trans (congrArg some (by kernel_rfl))
 f287:=Tryz.func112.trans (congrArg some (by kernel_rfl))
 f316:=Tryz.func178.trans (congrArg some (by kernel_rfl))
 f317:=Tryz.func181.trans (congrArg some (by kernel_rfl))
 f318:=Tryz.func183.trans (congrArg some (by kernel_rfl))
 f319:=Tryz.func184.trans (congrArg some (by kernel_rfl))
 f320:=Tryz.func185.trans (congrArg some (by kernel_rfl))
 f321:=Tryz.func176.trans (congrArg some (by kernel_rfl))
 f322:=Tryz.func177.trans (congrArg some (by kernel_rfl))
 f337:=Tryz.func224.trans (congrArg some (by kernel_rfl))
 f338:=Tryz.func225.trans (congrArg some (by kernel_rfl))
 t0:=Tryz.underlying0
 a0:=Tryz.isAgg0
 z0:=Tryz.sizeOf0
 v0:=Tryz.zeroValue0
 t2:=Tryz.underlying2
 a2:=Tryz.isAgg2
 z2:=Tryz.sizeOf2
 v2:=Tryz.zeroValue2
 t3:=Tryz.underlying3
 a3:=Tryz.isAgg3
 z3:=Tryz.sizeOf3
 v3:=Tryz.zeroValue3
 t4:=Tryz.underlying4
 a4:=Tryz.isAgg4
 z4:=Tryz.sizeOf4
 v4:=Tryz.zeroValue4
 t5:=Tryz.underlying5
 a5:=Tryz.isAgg5
 z5:=Tryz.sizeOf5
 v5:=Tryz.zeroValue5
 t9:=Tryz.underlying9
 a9:=Tryz.isAgg9
 z9:=Tryz.sizeOf9
 v9:=Tryz.zeroValue9
 t20:=Tryz.underlying20
 a20:=Tryz.isAgg20
 z20:=Tryz.sizeOf20
 v20:=Tryz.zeroValue20
 t21:=Tryz.underlying21
 a21:=Tryz.isAgg21
 z21:=Tryz.sizeOf21
 v21:=Tryz.zeroValue21
 t37:=Tryz.underlying57
 a37:=Tryz.isAgg57
 z37:=Tryz.sizeOf57
 v37:=Tryz.zeroValue57
 t46:=Tryz.underlying222
 a46:=Tryz.isAgg222
 z46:=Tryz.sizeOf222
 v46:=Tryz.zeroValue222
 t51:=Tryz.underlying38
 a51:=Tryz.isAgg38
 z51:=Tryz.sizeOf38
 v51:=Tryz.zeroValue38
 t53:=Tryz.underlying219
 a53:=Tryz.isAgg219
 z53:=Tryz.sizeOf219
 v53:=Tryz.zeroValue219
 t75:=Tryz.underlying124
 a75:=Tryz.isAgg124
 z75:=Tryz.sizeOf124
 v75:=Tryz.zeroValue124
 t85:=Tryz.underlying125
 a85:=Tryz.isAgg125
 z85:=Tryz.sizeOf125
 v85:=Tryz.zeroValue125
 t127:=Tryz.underlying174
 a127:=Tryz.isAgg174
 z127:=Tryz.sizeOf174
 v127:=Tryz.zeroValue174
 t143:=Tryz.underlying324
 a143:=Tryz.isAgg324
 z143:=Tryz.sizeOf324
 v143:=Tryz.zeroValue324
 t145:=Tryz.underlying326
 a145:=Tryz.isAgg326
 z145:=Tryz.sizeOf326
 v145:=Tryz.zeroValue326
 t167:=Tryz.underlying218
 a167:=Tryz.isAgg218
 z167:=Tryz.sizeOf218
 v167:=Tryz.zeroValue218
 t168:=Tryz.underlying223
 a168:=Tryz.isAgg223
 z168:=Tryz.sizeOf223
 v168:=Tryz.zeroValue223
 t171:=Tryz.underlying227
 a171:=Tryz.isAgg227
 z171:=Tryz.sizeOf227
 v171:=Tryz.zeroValue227
 t173:=Tryz.underlying230
 a173:=Tryz.isAgg230
 z173:=Tryz.sizeOf230
 v173:=Tryz.zeroValue230
 t175:=Tryz.underlying220
 a175:=Tryz.isAgg220
 z175:=Tryz.sizeOf220
 v175:=Tryz.zeroValue220
 t210:=Tryz.underlying282
 a210:=Tryz.isAgg282
 z210:=Tryz.sizeOf282
 v210:=Tryz.zeroValue282
 t212:=Tryz.underlying285
 a212:=Tryz.isAgg285
 z212:=Tryz.sizeOf285
 v212:=Tryz.zeroValue285
 t213:=Tryz.underlying286
 a213:=Tryz.isAgg286
 z213:=Tryz.sizeOf286
 t232:=Tryz.underlying357
 a232:=Tryz.isAgg357
 z232:=Tryz.sizeOf357
 v232:=Tryz.zeroValue357
 t233:=Tryz.underlying358
 a233:=Tryz.isAgg358
 z233:=Tryz.sizeOf358
 v233:=Tryz.zeroValue358
 g15:=by kernel_rfl
 g16:=by kernel_rfl
 g17:=by kernel_rfl
 g18:=by kernel_rfl
 g19:=by kernel_rfl
 t80:=Tryz.underlying151
 a80:=Tryz.isAgg151
 z80:=Tryz.sizeOf151
 v80:=Tryz.zeroValue151
 i0:=by kernel_rfl
 i2:=by kernel_rfl
 i3:=by kernel_rfl
 i4:=by kernel_rfl
 i5:=by kernel_rfl
 i9:=by kernel_rfl
 i20:=by kernel_rfl
 i21:=by kernel_rfl
 i37:=by kernel_rfl
 i46:=by kernel_rfl
 i51:=by kernel_rfl
 i53:=by kernel_rfl
 i75:=by kernel_rfl
 i80:=by kernel_rfl
 i85:=by kernel_rfl
 i127:=by kernel_rfl
 i143:=by kernel_rfl
 i145:=by kernel_rfl
 i167:=by kernel_rfl
 i168:=by kernel_rfl
 i171:=by kernel_rfl
 i173:=by kernel_rfl
 i175:=by kernel_rfl
 i210:=by kernel_rfl
 i212:=by kernel_rfl
 i232:=by kernel_rfl
 i233:=by kernel_rfl
 m15:=by kernel_rfl
 m16:=by kernel_rfl
 m17:=by kernel_rfl
 m18:=by kernel_rfl
 m19:=by kernel_rfl
 c0:=by kernel_rfl
 c2:=by kernel_rfl
 c3:=by kernel_rfl
 c4:=by kernel_rfl
 c5:=by kernel_rfl
 c9:=by kernel_rfl
 c20:=by kernel_rfl
 c21:=by kernel_rfl
 c37:=by kernel_rfl
 c46:=by kernel_rfl
 c51:=by kernel_rfl
 c53:=by kernel_rfl
 c75:=by kernel_rfl
 c80:=by kernel_rfl
 c85:=by kernel_rfl
 c127:=by kernel_rfl
 c143:=by kernel_rfl
 c145:=by kernel_rfl
 c167:=by kernel_rfl
 c168:=by kernel_rfl
 c171:=by kernel_rfl
 c173:=by kernel_rfl
 c175:=by kernel_rfl
 c210:=by kernel_rfl
 c212:=by kernel_rfl
 c213:=by kernel_rfl
 c232:=by kernel_rfl
 c233:=by kernel_rfl
 }
end
end Go.Proofs.YtdhgchekdkjcpaaGreatDoor
namespace Go.AM
section
open Go
section
def eK(T:Ty)(H:List B)(t:TypeId)(len:Nat)(parts:List (Nat×V)):Option (V×List B):=
 match T t with
 | some it=>match it.desc with
  | .slice e=>match T e with
   | some j=>if len*j.size≤16777216∧0<j.size∧0<len then
     (gf j.size (kQ len j.zero) parts).map fun xs=>(.buf H.length 0 len len,H++[.buf e j.size xs false]) else none
   | none=>none
  | _=>none
 | none=>none
section
variable {P:Program} {T:Ty} {s:St}
theorem kE(hT:TOk P T)(hg:Good s){t:TypeId}{len:Nat}{parts:List (Nat×V)}{uparts:Array (Nat×Value)}{r:V}{H':List B}(hl:parts.length=uparts.size)
  (hr:∀(i:Nat) p u,parts[i]?=some p→uparts[i]?=some u→p.1=u.1∧Rel s p.2 u.2) (h:eK T s.H t len parts=some (r,H')):
  ∃u s',(Instr.buildSlice t len uparts).run P s.w = .ok u s'.w∧s'.H=H'∧Good s'∧Step s s'∧Rel s' r u:=by
 unfold eK at h
 have hl':parts.length=uparts.toList.length:=by simpa using hl
 have hr':∀(i:Nat) p u,parts[i]?=some p→uparts.toList[i]?=some u→p.1=u.1∧Rel s p.2 u.2:=fun i p u h1 h2=>hr i p u h1 (by simpa using h2)
 split at h
 ·rename_i it hit;have hu:=hT.und t it hit;split at h
  ·rename_i e hd;rw[hd]at hu;split at h
   ·rename_i j hj;obtain⟨inf,q1,q2,q3,q4,q5,q6⟩:=hT.info e j hj;split at h
    ·rename_i hsz;obtain⟨z1,z2,z3⟩:=hsz
     cases hf:gf j.size (kQ len j.zero) parts with
     | none=>rw[hf]at h;cases h
     | some xs =>
      rw[hf]at h;cases h;have hzr:Rel s j.zero j.zval:=bu q5;have hz1:=dR q5;have hzc:=(hzr.cells hz1).1
      have h0:FRow s j.size (kQ len j.zero) ((mU (len*j.size)).map (j.zval.cells[· % j.zval.cells.size]!)):=
       js hzr hz1 q6 _ (by simp) (zeros_at j.zval (len*j.size) (by omega))
      obtain⟨us',h1,h2,h3⟩:=gG h0 hl' hr' hf
      have hlx:xs.length=len:=by simpa using h3
      have hmul:0<len*j.size:=Nat.mul_pos (by omega) z2;have hle:len≤len*j.size:=Nat.le_mul_of_pos_right _ z2;have hrun:=run_buildSlice (P:=P) s.w t e len uparts us' inf j.zval hu q1 q4 (by rw[q2];omega) (by rw[q2];omega) (by rw[q2];exact h1);have ho:=ci s.w (.cells us' e);refine⟨_,s.push _ s.w.heap.size len _,hrun,rfl,?_,dQ hg rfl rfl rfl (by simp) ho (kY _),?_⟩
      ·refine eB hg rfl rfl rfl (by simp) ho (kY _) (by simp) (fun hst=>?_);refine⟨us',?_,?_,?_,?_,h2.el,fun i x jj d w hx hd' hw=>(h2.rel i x jj d w hx hd' hw).step hst⟩
       ·intro _;simp only[St.push,aV];exact bw _ _
       ·simp only[St.push,aV];rw[h2.len,hlx]
       ·simp only[St.push,aV];omega
       ·simp only[St.push,aV,maxLen];omega
      ·refine .buf s.H.length 0 len len e j.size xs false _ _ _ (by simp[St.push]) (by omega) (fun _=>?_);simp only[St.push,aV,lm];exact⟨fun _=>trivial,trivial,by omega,by omega⟩
    ·cases h
   ·cases h
  ·cases h
 ·cases h
theorem W_regionO(hT:TOk P T){id:Nat}{ops:Array Oper}{Q:Exit→List V→List B→Prop}{fr:List V}{H:List B}{o:Oper}{rest:List Oper}{t:TypeId}{len:Nat}{ps:Array (Nat×Operand)}{v:V}{H':List B}
  (hl:ops.toList=o::rest) (hgd:o.guard=none) (ho:o.op = .buildSlice t len ps)
  (hb:eK T H t len (ps.toList.map fun p=>(p.1,aP fr p.2))=some (v,H'))
  (h:eL T ops (af P) (Q .normal) rest (bI fr o.dst v) H'):W P (.region id ops false) Q fr H:=by
 intro s a hH hg hf hd;obtain⟨rfl,hz⟩:=hH;refine wp_region ?_
 have hsz:0<ops.size:=by have:=congrArg List.length hl;simp at this;omega
 have h0:ops[0]?=some o:=by
  have:=congrArg (fun l=>l[0]?) hl;simpa using this
 have key:wpOps P ops (gV s Q) ((ki ops.size).drop 0) a s.w:=by
  rw[lH (by simpa using hsz)];simp only[mJ,wpOps,h0]
  have hw:Region.wanted o (yielded ops a.tmps)=true:=by unfold Region.wanted;rw[hgd]
  rw[hw];simp only[if_true];left
  obtain⟨u,s1,k1,k2,k3,k4,k5⟩:=kE (P:=P) hT hg (uparts:=ps.map fun(i,x)=>(i,a.eval x)) (by simp) (fun i p u hp hu=>by
   simp only[ko,lS,kx]at hp;obtain⟨q,hq,rfl⟩:=hp;simp only[mA,hq,kv,Option.some.injEq]at hu;subst hu
   exact⟨rfl,hf.eval _⟩) hb
  subst k2
  have hrun:(execOp a.eval o).run P s.w = .ok (.value u) s1.w:=by
   unfold execOp;rw[ho];simp[k1]
  unfold Oper.wp;rw[hrun,Oper.upon_value]
  exact fX hT rest 1 s1 (bI fr o.dst v) (a.put o.dst u) (by rw[hl];rfl) (hz.step k4) k3 ((hf.step k4).put k5 o.dst) (by rw[dW];exact hd) h
   (fun s' fr' a' j1 j2 j3 j4 j5=>⟨fr',s',rfl,j1,k4.trans j2,j3,j4,j5⟩)
 simpa using key
end
end
section
section
variable {P:Program} {T:Ty} {s:St}
theorem bytes_back{src dst e:TypeId}{l:List UInt8}{f:Bool}{u:Value}(hs:P.underlying src=some (.slice e))(he:P.underlying e=some (.int .u8))(hd:P.underlying dst=some .string)(hne:l≠[])
  (h:Rel s (.lst 1 f (l.map fun b=>.int .u8 (b.toNat:Int))) u):(convert src dst u).run P s.w = .ok (.string ⟨l.toArray⟩) s.w:=by
 cases h with
 | lst _ _ _ A cap b off v hcap hfull hA hz hcell hrel =>
  have hpos:0<l.length:=List.length_pos_iff.2 hne;obtain⟨rfl,hp⟩:=hA (by simpa using hpos)
  have:=run_convert_bytes_back (P:=P) s.w src dst e ⟨b,off,none⟩ cap l hs he hd (fun j hj=>by
   have h1:=hcell j (.int .u8 (l[j].toNat:Int)) 0 (.int .u8 (l[j].toNat:Int)) (by simp[hj]) rfl;have h2:=hrel j (.int .u8 (l[j].toNat:Int)) 0 (.int .u8 (l[j].toNat:Int)) (by simp[hj]) rfl
   have e:v j 0 = .int .u8 (l[j].toNat:Int):=by generalize v j 0=w at h2;cases h2;rfl
   rw[e]at h1
   have e2:(⟨b,off,none⟩:Addr).add j=⟨b,off+j,none⟩:=by cases j<;>simp[Addr.add]
   rw[e2]
   simpa using h1)
  simpa using this
theorem W_regionB(hT:TOk P T){id:Nat}{ops:Array Oper}{Q:Exit→List V→List B→Prop}{fr:List V}{H:List B}{o0 o1:Oper}{rest:List Oper}{x y:Operand}{src dst e:TypeId}{l:List UInt8}{f:Bool}
  (hl:ops.toList=o0::o1::rest) (g0:o0.guard=none) (g1:o1.guard=none) (p0:o0.op = .move x) (p1:o1.op = .convert src dst y)
  (hs:P.underlying src=some (.slice e)) (he:P.underlying e=some (.int .u8)) (hd:P.underlying dst=some .string) (hne:l≠[])
  (hy:aP (bI fr o0.dst (aP fr x)) y = .lst 1 f (l.map fun b=>.int .u8 (b.toNat:Int)))
  (h:eL T ops (af P) (Q .normal) rest (bI (bI fr o0.dst (aP fr x)) o1.dst (.str ⟨l.toArray⟩)) H):W P (.region id ops false) Q fr H:=by
 intro s a hH hg hf hdf;obtain⟨rfl,hz⟩:=hH;refine wp_region ?_;have hlen:=congrArg List.length hl;simp at hlen
 have h0:ops[0]?=some o0:=by
  have:=congrArg (fun l=>l[0]?) hl;simpa using this
 have h1:ops[1]?=some o1:=by
  have:=congrArg (fun l=>l[1]?) hl;simpa using this
 have key:wpOps P ops (gV s Q) ((ki ops.size).drop 0) a s.w:=by
  rw[lH (by simp;omega)];simp only[mJ,wpOps,h0]
  have hw:Region.wanted o0 (yielded ops a.tmps)=true:=by unfold Region.wanted;rw[g0]
  rw[hw];simp only[if_true];left
  have hrun:(execOp a.eval o0).run P s.w = .ok (.value (a.eval x)) s.w:=by
   unfold execOp;rw[p0];simp
  unfold Oper.wp;rw[hrun,Oper.upon_value];have hf1:=hf.put (hf.eval x) o0.dst;rw[lH (by simp;omega)];simp only[mJ,wpOps,h1]
  have hw1:Region.wanted o1 (yielded ops (a.put o0.dst (a.eval x)).tmps)=true:=by unfold Region.wanted;rw[g1]
  simp only[ld,h1];rw[hw1];simp only[if_true];left;have hr:=hf1.eval y;rw[hy]at hr
  have hrun1:(execOp (a.put o0.dst (a.eval x)).eval o1).run P s.w = .ok (.value (.string ⟨l.toArray⟩)) s.w:=by
   have:=bytes_back hs he hd hne hr;unfold execOp;rw[p1];simp[this]
  unfold Oper.wp;rw[hrun1,Oper.upon_value]
  exact fX hT rest 2 s _ _ (by rw[hl];rfl) hz hg (hf1.put (.str _) o1.dst) (by rw[dW,dW];exact hdf) h
   (fun s' fr' a' j1 j2 j3 j4 j5=>⟨fr',s',rfl,j1,j2,j3,j4,j5⟩)
 simpa using key
end
end
end
end Go.AM
namespace Go.Proofs.YtdhgchekdkjcpaaGreatDoor
section
open Go Go.AM Go.RowKit
def tzIx(x:Int):Nat:=(bits BinOp.and IntKind.u32 x (-x % 4294967296)*125613361 % 4294967296 / 134217728).toNat
def tzI(x:Int):Int:=if x=0 then 32 else(dp[tzIx x]?).getD 0
theorem tab_lt(i:Nat)(h:i<32):∃y,dp[i]?=some y∧0≤y∧y<32:=by
 have:∀i:Fin 32,∃y,dp[i.1]?=some y∧0≤y∧y<32:=by decide
 exact this ⟨i,h⟩
theorem tz_any(x:Int)(w:World)(hz:∀(i:Nat) y,dp[i]?=some y→w.cell? ⟨6,i,none⟩=some (.int .u8 y)):
  Calls Tryz.prog 224 #[.int .u32 x] w fun e w'=>e = .returned (.int .i64 (tzI x))∧w'=w:=by
 by_cases hx:x=0
 ·have hb:(x == 0)=true:=by simpa using hx
  go_enter Tryz.func224,Tryz.ntmps224
  go_wp2
  go_ret
  exact⟨by simp[tzI,hx],rfl⟩
 ·have hb:(x == 0)=false:=by simpa using hx
  have h0:0≤bits BinOp.and IntKind.u32 x (-x % 4294967296)*125613361 % 4294967296 / 134217728:=by omega
  have h1:bits BinOp.and IntKind.u32 x (-x % 4294967296)*125613361 % 4294967296 / 134217728<32:=by omega
  obtain⟨y,hy,y0,y1⟩:=tab_lt (tzIx x) (by unfold tzIx;omega);have hc:=hz _ y hy;unfold tzIx at hc
  have hy':tzI x=y:=by simp[tzI,hx,hy]
  clear hz
  go_enter Tryz.func224,Tryz.ntmps224
  go_wp2
  go_ret
  exact⟨by rw[hy'];simp,rfl⟩
theorem tz_con(x:Int):ab Tryz.prog 224 [.int .u32 x] fun r=>r = .int .i64 (tzI x):=by
 refine⟨⟨Tryz.f224,Tryz.func224,rfl,rfl⟩,fun F w vals hZ hF hsz hrel=>?_⟩
 obtain⟨v0,rfl⟩:∃v0,vals = #[v0]:=by
  obtain⟨l⟩:=vals
  match l,hsz with
  | [a],_=>exact⟨a,rfl⟩
 have h0:=hrel 0 _ v0 rfl rfl;cases h0
 refine(tz_any x w (hZ.bits 6 (by kernel_rfl)).2).mono fun e w' ⟨h1,h2⟩=>⟨_,_,h1,.int _ _,.int _ _,by subst h2;exact Below.refl _ _,rfl⟩
def cmpS(a b:ByteArray):Int:=Lib.compareBytes a.data.toList b.data.toList
theorem cmp_any(a b:ByteArray)(w:World):Calls Tryz.prog 256 #[.string a,.string b] w fun e w'=>e = .returned (.int .i64 (cmpS a b))∧w'=w:=by
 have hc:∀w,(callFunc 291 #[.string a,.string b]).run Tryz.prog w = .ok (.value (.int .i64 (cmpS a b))) w:=fun w=>by
  rw[run_callFunc_extern Tryz.func291 (by kernel_rfl) (by kernel_rfl) (by kernel_rfl) (e:=Extern.BytealgCompare.compare) (by kernel_rfl),Lib.run_compareString];rfl
 go_enter Tryz.func256,Tryz.ntmps256
 go_wp2_with (simp only[hc])
 go_ret
 exact⟨rfl,rfl⟩
theorem cmp_con(a b:ByteArray):ab Tryz.prog 256 [.str a,.str b] fun r=>r = .int .i64 (cmpS a b):=by
 refine⟨⟨Tryz.f256,Tryz.func256,rfl,rfl⟩,fun F w vals hZ hF hsz hrel=>?_⟩
 obtain⟨v0,v1,rfl⟩:∃v0 v1,vals = #[v0,v1]:=by
  obtain⟨l⟩:=vals
  match l,hsz with
  | [a,b],_=>exact⟨a,b,rfl⟩
 have h0:=hrel 0 _ v0 rfl rfl;have h1:=hrel 1 _ v1 rfl rfl;cases h0;cases h1
 refine(cmp_any a b w).mono fun e w' ⟨h1,h2⟩=>⟨_,_,h1,.int _ _,.int _ _,by subst h2;exact Below.refl _ _,rfl⟩
end
end Go.Proofs.YtdhgchekdkjcpaaGreatDoor
namespace Go.AM
section
open Go
section
def Rp(fr:List V)(H:List B)(fr':List V)(H':List B):Prop :=
 ∀(s:St) (tmps:Array Value),s.H=H→Good s→FRel s fr tmps→∃s',s'.w=s.w∧s'.H=H'∧Good s'∧Step s s'∧FRel s' fr' tmps
section
variable {P:Program}
theorem dc(fr:List V)(H:List B):Rp fr H fr H:=fun s t e g f=>⟨s,rfl,e,g,Step.refl s,f⟩
theorem fD{fr1 fr2 fr3:List V}{H1 H2 H3:List B}(h:Rp fr1 H1 fr2 H2)(g:Rp fr2 H2 fr3 H3):Rp fr1 H1 fr3 H3:=fun s t e g1 f=>by
 obtain⟨s1,a1,a2,a3,a4,a5⟩:=h s t e g1 f;obtain⟨s2,b1,b2,b3,b4,b5⟩:=g s1 t a2 a3 a5;exact⟨s2,b1.trans a1,b2,b3,a4.trans b4,b5⟩
theorem jT(k:Nat)(sl:List Nat){fr:List V}{H:List B}{e z:Nat}{xs:List V}{fz:Bool}(hk:H[k]?=some (.buf e z xs fz))
  (ho:RepF (.buf k 0 xs.length xs.length) (.lst z false xs) fr (repAt (.lst z false xs) sl 0 fr)):Rp fr H (repAt (.lst z false xs) sl 0 fr) (H.set k (.buf e z xs true)):=by
 intro s tmps hH hg hf;subst hH;obtain⟨p1,p2,_⟩:=jr hg hk;have hl:=ho.len
 exact⟨s.frz k (.buf e z xs true),rfl,rfl,p1,p2,by rw[hf.len,hl],fun i v u hv hu=>by
  have hx:fr[i]?=some (fr[i]'(by have:=getElem?_lt hv;omega)):=kR _
  exact frz_rep hg hk (hf.rel i _ u hx hu) (ho.at_ i _ v hx hv)⟩
end
end
section
section
variable {P:Program}
theorem bF{f:FuncId}{args:List V}{H:List B}{K:V→List B→Prop}(h:aq P f args H fun r H'=>∃H'',Rp [r] H' [r] H''∧K r H''):aq P f args H K :=
 ⟨h.1,fun s vals h1 h2 h3 h4=>(h.2 s vals h1 h2 h3 h4).mono fun e w' ⟨u,s',r,a1,a2,a3,a4,a5,H'',a6,a7⟩=>by
  obtain⟨s2,b1,b2,b3,b4,b5⟩:=a6 s' #[u] rfl a3 ⟨rfl,fun i v x hv hx=>by
   match i with
   | 0=>simp at hv hx;subst hv;subst hx;exact a5
   | m+1=>simp at hv⟩
  exact⟨u,s2,r,a1,b1.trans a2,b3,a4.trans b4,b5.rel 0 r u rfl rfl,b2▸a7⟩⟩
def Wk(H:List B)(x y:V):Prop:=∀(s:St),s.H=H→Good s→∀u,Rel s x u→Rel s y u
theorem cx(H:List B)(x:V):Wk H x x:=fun _ _ _ _ h=>h
theorem wk_nil(H:List B)(z:Nat)(f:Bool):Wk H .nilS (.lst z f []):=fun s _ _ u h=>by cases h;exact cJ z f none 0 (fun _=>rfl)
theorem jO{H:List B}{k e z:Nat}{xs:List V}(hk:H[k]?=some (.buf e z xs true)):Wk H (.buf k 0 xs.length xs.length) (.lst z false xs):=fun s hH hg u h=>by
 subst hH;obtain⟨_,_,h3⟩:=jr hg hk;have:=h3 u h
 have e0:s.frz k (.buf e z xs true)=s:=by
  unfold St.frz
  have:s.H.set k (.buf e z xs true)=s.H:=by
   have hl:=getElem?_lt hk
   have:s.H[k] = .buf e z xs true:=by rw[kR hl]at hk;exact Option.some.inj hk
   rw[←this,List.set_getElem_self]
  rw[this]
 rwa [e0]at this
theorem rp_E(k0 i:Nat){fr:List V}{H:List B}{e0 z0:Nat}{xs:List V}{x y:V}(hk:H[k0]?=some (.buf e0 z0 xs false))(hx:xs[i]?=some x)(hl:y.cells.length=x.cells.length)(h1:∀c∈y.cells,c.one=true)
  (hc:∀(j:Nat) c d,x.cells[j]?=some c→y.cells[j]?=some d→Wk H c d):Rp fr H fr (H.set k0 (.buf e0 z0 (xs.set i y) false)):=by
 intro s tmps hH hg hf;subst hH;have hil:=getElem?_lt hx;have hkl:=getElem?_lt hk;obtain⟨vs,g2,g3,g4,g5,g6,g7⟩:=hg.blk k0 _ hk
 have hκ:s.κ k0≠0:=by omega
 have hlv:Lv s k0:=lvB hk hκ;have hal:B.alike (.buf e0 z0 xs false) (.buf e0 z0 (xs.set i y) false):=⟨rfl,rfl,by simp,rfl,rfl⟩;have hst:=bt (w:=s.w) (bl':=.buf e0 z0 (xs.set i y) false) hg hk hlv hal rfl rfl rfl (kY _) (fun _ _ _=>rfl)
 have hgd:Good (s.setB s.w k0 (.buf e0 z0 (xs.set i y) false)):=by
  refine cI hg hk hlv hal rfl rfl rfl (kY _) (fun _ _ _=>rfl) (fun hst=>?_);refine⟨vs,g2,g3,(by simpa using g4:(xs.set i y).length≤s.κ k0),g5,fun q hqm=>?_,fun j q m d u hj hm hu=>?_⟩
  ·rcases lq hqm with hqm | rfl
   ·exact g6 q hqm
   ·exact⟨by have:=(g6 _ (kS hx)).1;omega,h1⟩
  ·by_cases hji:j=i
   ·subst hji;rw[ku hil]at hj;cases hj;have hcm:x.cells[m]?=some (x.cells[m]'(by have:=getElem?_lt hm;omega)):=kR _;exact(hc m _ d hcm hm s rfl hg u (g7 j _ m _ u hx hcm hu)).step hst
   ·rw[kn (Ne.symm hji)]at hj;exact(g7 j q m d u hj hm hu).step hst
 exact⟨s.setB s.w k0 (.buf e0 z0 (xs.set i y) false),rfl,rfl,hgd,hst,hf.len,fun i v u hv hu=>(hf.rel i v u hv hu).step hst⟩
end
end
end
end Go.AM
