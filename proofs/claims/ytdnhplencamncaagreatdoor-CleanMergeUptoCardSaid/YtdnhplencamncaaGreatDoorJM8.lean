/- JM8: own texts of this seat, joined and shortened by pack4.py: C1. -/
import Derived.Test.YtdnhplencamncaaGreatDoorJM7
import Derived.ProofKit
import Derived.Laws.BitsAllLaws
import Derived.Laws.BitsLemmas
import Derived.Laws.Externs
import Derived.Lib.Bytealg
set_option linter.unusedVariables false
set_option linter.unusedSimpArgs false
set_option maxRecDepth 100000
set_option maxHeartbeats 64000000
namespace Go.Proofs.YtdnhplencamncaaGreatDoor
section
open Go Go.AM Go.RowKit
def tzIx(x:Int):Nat:=(bits BinOp.and IntKind.u32 x (-x % 4294967296)*125613361 % 4294967296 / 134217728).toNat
def tzI(x:Int):Int:=if x=0 then 32 else(fB[tzIx x]?).getD 0
theorem tab_lt(i:Nat)(h:i<32):∃y,fB[i]?=some y∧0≤y∧y<32:=by
 have:∀i:Fin 32,∃y,fB[i.1]?=some y∧0≤y∧y<32:=by decide
 exact this ⟨i,h⟩
theorem tz_any(x:Int)(w:World)(hz:∀(i:Nat) y,fB[i]?=some y→w.cell? ⟨1,i,none⟩=some (.int .u8 y)):
  Calls Tryz.prog 341 #[.int .u32 x] w fun e w'=>e = .returned (.int .i64 (tzI x))∧w'=w:=by
 by_cases hx:x=0
 ·have hb:(x == 0)=true:=by simpa using hx
  go_enter Tryz.func341,Tryz.ntmps341
  go_wp2
  go_ret
  exact⟨by simp[tzI,hx],rfl⟩
 ·have hb:(x == 0)=false:=by simpa using hx
  have h0:0≤bits BinOp.and IntKind.u32 x (-x % 4294967296)*125613361 % 4294967296 / 134217728:=by omega
  have h1:bits BinOp.and IntKind.u32 x (-x % 4294967296)*125613361 % 4294967296 / 134217728<32:=by omega
  obtain⟨y,hy,y0,y1⟩:=tab_lt (tzIx x) (by unfold tzIx;omega);have hc:=hz _ y hy;unfold tzIx at hc
  have hy':tzI x=y:=by simp[tzI,hx,hy]
  clear hz
  go_enter Tryz.func341,Tryz.ntmps341
  go_wp2
  go_ret
  exact⟨by rw[hy'];simp,rfl⟩
theorem tz_con(x:Int):aJ Tryz.prog 341 [.int .u32 x] fun r=>r = .int .i64 (tzI x):=by
 refine⟨⟨Tryz.f341,Tryz.func341,rfl,rfl⟩,fun F w vals hZ hF hsz hrel=>?_⟩
 obtain⟨v0,rfl⟩:∃v0,vals = #[v0]:=by
  obtain⟨l⟩:=vals
  match l,hsz with
  | [a],_=>exact⟨a,rfl⟩
 have h0:=hrel 0 _ v0 rfl rfl;cases h0
 refine(tz_any x w (hZ.bits 1 (by kernel_rfl)).2).mono fun e w' ⟨h1,h2⟩=>⟨_,_,h1,.int _ _,.int _ _,by subst h2;exact Below.refl _ _,rfl⟩
def jC(a b:ByteArray):Int:=Lib.compareBytes a.data.toList b.data.toList
theorem cmp_any(a b:ByteArray)(w:World):Calls Tryz.prog 339 #[.string a,.string b] w fun e w'=>e = .returned (.int .i64 (jC a b))∧w'=w:=by
 have hc:∀w,(callFunc 362 #[.string a,.string b]).run Tryz.prog w = .ok (.value (.int .i64 (jC a b))) w:=fun w=>by
  rw[run_callFunc_extern Tryz.func362 (by kernel_rfl) (by kernel_rfl) (by kernel_rfl) (e:=Extern.BytealgCompare.compare) (by kernel_rfl),Lib.run_compareString];rfl
 go_enter Tryz.func339,Tryz.ntmps339
 go_wp2_with (simp only[hc])
 go_ret
 exact⟨rfl,rfl⟩
theorem cmp_con(a b:ByteArray):aJ Tryz.prog 339 [.str a,.str b] fun r=>r = .int .i64 (jC a b):=by
 refine⟨⟨Tryz.f339,Tryz.func339,rfl,rfl⟩,fun F w vals hZ hF hsz hrel=>?_⟩
 obtain⟨v0,v1,rfl⟩:∃v0 v1,vals = #[v0,v1]:=by
  obtain⟨l⟩:=vals
  match l,hsz with
  | [a,b],_=>exact⟨a,b,rfl⟩
 have h0:=hrel 0 _ v0 rfl rfl;have h1:=hrel 1 _ v1 rfl rfl;cases h0;cases h1
 refine(cmp_any a b w).mono fun e w' ⟨h1,h2⟩=>⟨_,_,h1,.int _ _,.int _ _,by subst h2;exact Below.refl _ _,rfl⟩
end
end Go.Proofs.YtdnhplencamncaaGreatDoor
