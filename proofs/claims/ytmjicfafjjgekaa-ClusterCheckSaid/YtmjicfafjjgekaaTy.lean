/- Ty: the types of this seat for the abstract machine, printed by mkty.py. -/
import Derived.Test.YtmjicfafjjgekaaProg
import Derived.Test.YtmjicfafjjgekaaAMd
namespace Go.Proofs.Ytmjicfafjjgekaa
open Go Go.AM
def ti2 : TI := ⟨.int .i64, 1, 8, .int .i64 0, .int .i64 0, some (.int .i64)⟩
def ti3 : TI := ⟨.int .i64, 1, 8, .int .i64 0, .int .i64 0, some (.int .i64)⟩
def ti4 : TI := ⟨.bool, 1, 1, .bool false, .bool false, some .bool⟩
def ti5 : TI := ⟨.int .u8, 1, 1, .int .u8 0, .int .u8 0, some (.int .u8)⟩
def ti22 : TI := ⟨.slice 28, 1, 24, .nilS, .slice none 0 0, none⟩
def ti24 : TI := ⟨.int .i64, 1, 8, .int .i64 0, .int .i64 0, some (.int .i64)⟩
def ti28 : TI := ⟨.struct #[⟨ "I", 3, 0, false, "", "", 0⟩, ⟨ "K", 3, 1, false, "", "", 8⟩, ⟨ "Weight", 2, 2, false, "", "", 16⟩], 3, 24, .agg [.int .i64 0, .int .i64 0, .int .i64 0], .agg #[.int .i64 0, .int .i64 0, .int .i64 0], none⟩
def ti35 : TI := ⟨.slice 3, 1, 24, .nilS, .slice none 0 0, none⟩
def ti40 : TI := ⟨.slice 56, 1, 24, .nilS, .slice none 0 0, none⟩
def ti56 : TI := ⟨.struct #[⟨ "I", 3, 0, false, "", "", 0⟩, ⟨ "J", 3, 1, false, "", "", 8⟩, ⟨ "K", 3, 2, false, "", "", 16⟩, ⟨ "Amount", 2, 3, false, "", "", 24⟩], 4, 32, .agg [.int .i64 0, .int .i64 0, .int .i64 0, .int .i64 0], .agg #[.int .i64 0, .int .i64 0, .int .i64 0, .int .i64 0], none⟩
def ti59 : TI := ⟨.slice 35, 1, 24, .nilS, .slice none 0 0, none⟩
def T : Ty := fun t => match t with
  | 2 => some ti2
  | 3 => some ti3
  | 4 => some ti4
  | 5 => some ti5
  | 22 => some ti22
  | 24 => some ti24
  | 28 => some ti28
  | 35 => some ti35
  | 40 => some ti40
  | 56 => some ti56
  | 59 => some ti59
  | _ => none
@[simp] theorem T_2 : T 2 = some ⟨.int .i64, 1, 8, .int .i64 0, .int .i64 0, some (.int .i64)⟩ := rfl
@[simp] theorem T_3 : T 3 = some ⟨.int .i64, 1, 8, .int .i64 0, .int .i64 0, some (.int .i64)⟩ := rfl
@[simp] theorem T_4 : T 4 = some ⟨.bool, 1, 1, .bool false, .bool false, some .bool⟩ := rfl
@[simp] theorem T_5 : T 5 = some ⟨.int .u8, 1, 1, .int .u8 0, .int .u8 0, some (.int .u8)⟩ := rfl
@[simp] theorem T_22 : T 22 = some ⟨.slice 28, 1, 24, .nilS, .slice none 0 0, none⟩ := rfl
@[simp] theorem T_24 : T 24 = some ⟨.int .i64, 1, 8, .int .i64 0, .int .i64 0, some (.int .i64)⟩ := rfl
@[simp] theorem T_28 : T 28 = some ⟨.struct #[⟨ "I", 3, 0, false, "", "", 0⟩, ⟨ "K", 3, 1, false, "", "", 8⟩, ⟨ "Weight", 2, 2, false, "", "", 16⟩], 3, 24, .agg [.int .i64 0, .int .i64 0, .int .i64 0], .agg #[.int .i64 0, .int .i64 0, .int .i64 0], none⟩ := rfl
@[simp] theorem T_35 : T 35 = some ⟨.slice 3, 1, 24, .nilS, .slice none 0 0, none⟩ := rfl
@[simp] theorem T_40 : T 40 = some ⟨.slice 56, 1, 24, .nilS, .slice none 0 0, none⟩ := rfl
@[simp] theorem T_56 : T 56 = some ⟨.struct #[⟨ "I", 3, 0, false, "", "", 0⟩, ⟨ "J", 3, 1, false, "", "", 8⟩, ⟨ "K", 3, 2, false, "", "", 16⟩, ⟨ "Amount", 2, 3, false, "", "", 24⟩], 4, 32, .agg [.int .i64 0, .int .i64 0, .int .i64 0, .int .i64 0], .agg #[.int .i64 0, .int .i64 0, .int .i64 0, .int .i64 0], none⟩ := rfl
@[simp] theorem T_59 : T 59 = some ⟨.slice 35, 1, 24, .nilS, .slice none 0 0, none⟩ := rfl
theorem tok : TOk Try.prog T := tok_of fun t i h => by
  unfold T at h
  split at h
  · cases h; exact ⟨Try.underlying2, by kernel_rfl, by kernel_rfl, by kernel_rfl, fun _ h => by cases h; exact int_law Try.underlying2⟩
  · cases h; exact ⟨Try.underlying3, by kernel_rfl, by kernel_rfl, by kernel_rfl, fun _ h => by cases h; exact int_law Try.underlying3⟩
  · cases h; exact ⟨Try.underlying4, by kernel_rfl, by kernel_rfl, by kernel_rfl, fun _ h => by cases h; exact bool_law Try.underlying4⟩
  · cases h; exact ⟨Try.underlying5, by kernel_rfl, by kernel_rfl, by kernel_rfl, fun _ h => by cases h; exact int_law Try.underlying5⟩
  · cases h; exact ⟨Try.underlying22, by kernel_rfl, by kernel_rfl, by kernel_rfl, fun _ h => by cases h⟩
  · cases h; exact ⟨Try.underlying24, by kernel_rfl, by kernel_rfl, by kernel_rfl, fun _ h => by cases h; exact int_law Try.underlying24⟩
  · cases h; exact ⟨Try.underlying28, by kernel_rfl, by kernel_rfl, by kernel_rfl, fun _ h => by cases h⟩
  · cases h; exact ⟨Try.underlying35, by kernel_rfl, by kernel_rfl, by kernel_rfl, fun _ h => by cases h⟩
  · cases h; exact ⟨Try.underlying40, by kernel_rfl, by kernel_rfl, by kernel_rfl, fun _ h => by cases h⟩
  · cases h; exact ⟨Try.underlying56, by kernel_rfl, by kernel_rfl, by kernel_rfl, fun _ h => by cases h⟩
  · cases h; exact ⟨Try.underlying59, by kernel_rfl, by kernel_rfl, by kernel_rfl, fun _ h => by cases h⟩
  · cases h
end Go.Proofs.Ytmjicfafjjgekaa
