/- Ty: the types of this seat for the abstract machine, printed by mkty.py. -/
import Derived.Test.YtmjicfafjjgekaaProg
import Derived.Test.YtmjicfafjjgekaaAMe
namespace Go.Proofs.Ytmjicfafjjgekaa
open Go Go.AM
def ti1 : TI := ⟨.func #[] #[] false, 1, 8, .nilFn, .nilFunc, none, false, false⟩
def ti2 : TI := ⟨.int .i64, 1, 8, .int .i64 0, .int .i64 0, some (.int .i64), false, false⟩
def ti3 : TI := ⟨.int .i64, 1, 8, .int .i64 0, .int .i64 0, some (.int .i64), false, false⟩
def ti4 : TI := ⟨.bool, 1, 1, .bool false, .bool false, some .bool, false, false⟩
def ti5 : TI := ⟨.int .u8, 1, 1, .int .u8 0, .int .u8 0, some (.int .u8), false, false⟩
def ti6 : TI := ⟨.int .u8, 1, 1, .int .u8 0, .int .u8 0, some (.int .u8), false, false⟩
def ti7 : TI := ⟨.struct #[⟨ "x", 2, 0, false, "", "runtime", 0⟩, ⟨ "y", 3, 1, false, "", "runtime", 8⟩, ⟨ "signed", 4, 2, false, "", "runtime", 16⟩, ⟨ "code", 6, 3, false, "", "runtime", 17⟩], 4, 24, .agg [.int .i64 0, .int .i64 0, .bool false, .int .u8 0], .agg #[.int .i64 0, .int .i64 0, .bool false, .int .u8 0], none, true, false⟩
def ti8 : TI := ⟨.struct #[⟨ "x", 2, 0, false, "", "runtime", 0⟩, ⟨ "y", 3, 1, false, "", "runtime", 8⟩, ⟨ "signed", 4, 2, false, "", "runtime", 16⟩, ⟨ "code", 6, 3, false, "", "runtime", 17⟩], 4, 24, .agg [.int .i64 0, .int .i64 0, .bool false, .int .u8 0], .agg #[.int .i64 0, .int .i64 0, .bool false, .int .u8 0], none, true, false⟩
def ti9 : TI := ⟨.string, 1, 16, .str ByteArray.empty, .string ByteArray.empty, some .str, false, false⟩
def ti10 : TI := ⟨.string, 1, 16, .str ByteArray.empty, .string ByteArray.empty, some .str, false, false⟩
def ti11 : TI := ⟨.string, 1, 16, .str ByteArray.empty, .string ByteArray.empty, some .str, false, false⟩
def ti12 : TI := ⟨.int .u64, 1, 8, .int .u64 0, .int .u64 0, some (.int .u64), false, false⟩
def ti13 : TI := ⟨.struct #[⟨ "msg", 9, 0, false, "", "runtime", 0⟩, ⟨ "addr", 12, 1, false, "", "runtime", 16⟩], 2, 24, .agg [.str ByteArray.empty, .int .u64 0], .agg #[.string ByteArray.empty, .int .u64 0], none, false, false⟩
def ti14 : TI := ⟨.struct #[⟨ "msg", 9, 0, false, "", "runtime", 0⟩, ⟨ "addr", 12, 1, false, "", "runtime", 16⟩], 2, 24, .agg [.str ByteArray.empty, .int .u64 0], .agg #[.string ByteArray.empty, .int .u64 0], none, false, false⟩
def ti15 : TI := ⟨.pointer 97, 1, 8, .nilP, .pointer none, none, false, false⟩
def ti16 : TI := ⟨.pointer 100, 1, 8, .nilP, .pointer none, none, false, false⟩
def ti17 : TI := ⟨.pointer 109, 1, 8, .nilP, .pointer none, none, false, false⟩
def ti18 : TI := ⟨.struct #[⟨ "typ", 17, 0, false, "", "internal/runtime/maps", 0⟩], 1, 8, .agg [.nilP], .agg #[.pointer none], none, false, false⟩
def ti19 : TI := ⟨.struct #[⟨ "typ", 17, 0, false, "", "internal/runtime/maps", 0⟩], 1, 8, .agg [.nilP], .agg #[.pointer none], none, false, false⟩
def ti21 : TI := ⟨.int .i32, 1, 4, .int .i32 0, .int .i32 0, some (.int .i32), false, false⟩
def ti22 : TI := ⟨.slice 28, 1, 24, .nilS, .slice none 0 0, none, false, false⟩
def ti23 : TI := ⟨.func #[] #[4] false, 1, 8, .nilFn, .nilFunc, none, false, false⟩
def ti24 : TI := ⟨.int .i64, 1, 8, .int .i64 0, .int .i64 0, some (.int .i64), false, false⟩
def ti25 : TI := ⟨.func #[3, 22] #[24] false, 1, 8, .nilFn, .nilFunc, none, false, false⟩
def ti26 : TI := ⟨.func #[22] #[22] false, 1, 8, .nilFn, .nilFunc, none, false, false⟩
def ti27 : TI := ⟨.struct #[⟨ "I", 3, 0, false, "", "", 0⟩, ⟨ "K", 3, 1, false, "", "", 8⟩, ⟨ "Weight", 2, 2, false, "", "", 16⟩], 3, 24, .agg [.int .i64 0, .int .i64 0, .int .i64 0], .agg #[.int .i64 0, .int .i64 0, .int .i64 0], none, true, false⟩
def ti28 : TI := ⟨.struct #[⟨ "I", 3, 0, false, "", "", 0⟩, ⟨ "K", 3, 1, false, "", "", 8⟩, ⟨ "Weight", 2, 2, false, "", "", 16⟩], 3, 24, .agg [.int .i64 0, .int .i64 0, .int .i64 0], .agg #[.int .i64 0, .int .i64 0, .int .i64 0], none, true, false⟩
def ti29 : TI := ⟨.func #[3, 22] #[4] false, 1, 8, .nilFn, .nilFunc, none, false, false⟩
def ti30 : TI := ⟨.slice 64, 1, 24, .nilS, .slice none 0 0, none, false, false⟩
def ti31 : TI := ⟨.struct #[⟨ "N", 5, 0, false, "", "", 0⟩, ⟨ "Weights", 30, 1, false, "", "", 8⟩], 2, 32, .agg [.int .u8 0, .nilS], .agg #[.int .u8 0, .slice none 0 0], none, true, false⟩
def ti32 : TI := ⟨.struct #[⟨ "N", 5, 0, false, "", "", 0⟩, ⟨ "Weights", 30, 1, false, "", "", 8⟩], 2, 32, .agg [.int .u8 0, .nilS], .agg #[.int .u8 0, .slice none 0 0], none, true, false⟩
def ti34 : TI := ⟨.func #[32, 3] #[3, 22, 4] false, 1, 8, .nilFn, .nilFunc, none, false, false⟩
def ti35 : TI := ⟨.slice 3, 1, 24, .nilS, .slice none 0 0, none, false, false⟩
def ti37 : TI := ⟨.func #[3, 22] #[35, 2, 24] false, 1, 8, .nilFn, .nilFunc, none, false, false⟩
def ti38 : TI := ⟨.func #[35, 35] #[4] false, 1, 8, .nilFn, .nilFunc, none, false, false⟩
def ti39 : TI := ⟨.func #[32] #[4] false, 1, 8, .nilFn, .nilFunc, none, false, false⟩
def ti40 : TI := ⟨.slice 56, 1, 24, .nilS, .slice none 0 0, none, false, false⟩
def ti42 : TI := ⟨.func #[3, 22] #[40, 2, 24] false, 1, 8, .nilFn, .nilFunc, none, false, false⟩
def ti44 : TI := ⟨.func #[3, 22, 40] #[2, 4] false, 1, 8, .nilFn, .nilFunc, none, false, false⟩
def ti45 : TI := ⟨.func #[3, 22, 40] #[4] false, 1, 8, .nilFn, .nilFunc, none, false, false⟩
def ti47 : TI := ⟨.func #[3, 22, 35] #[2, 24] false, 1, 8, .nilFn, .nilFunc, none, false, false⟩
def ti48 : TI := ⟨.func #[35] #[35] false, 1, 8, .nilFn, .nilFunc, none, false, false⟩
def ti50 : TI := ⟨.func #[3, 22] #[35, 24] false, 1, 8, .nilFn, .nilFunc, none, false, false⟩
def ti51 : TI := ⟨.func #[3, 22, 35] #[4] false, 1, 8, .nilFn, .nilFunc, none, false, false⟩
def ti52 : TI := ⟨.slice 5, 1, 24, .nilS, .slice none 0 0, none, false, false⟩
def ti53 : TI := ⟨.func #[32, 52, 5] #[4] false, 1, 8, .nilFn, .nilFunc, none, false, false⟩
def ti54 : TI := ⟨.func #[40] #[40] false, 1, 8, .nilFn, .nilFunc, none, false, false⟩
def ti55 : TI := ⟨.struct #[⟨ "I", 3, 0, false, "", "", 0⟩, ⟨ "J", 3, 1, false, "", "", 8⟩, ⟨ "K", 3, 2, false, "", "", 16⟩, ⟨ "Amount", 2, 3, false, "", "", 24⟩], 4, 32, .agg [.int .i64 0, .int .i64 0, .int .i64 0, .int .i64 0], .agg #[.int .i64 0, .int .i64 0, .int .i64 0, .int .i64 0], none, true, false⟩
def ti56 : TI := ⟨.struct #[⟨ "I", 3, 0, false, "", "", 0⟩, ⟨ "J", 3, 1, false, "", "", 8⟩, ⟨ "K", 3, 2, false, "", "", 16⟩, ⟨ "Amount", 2, 3, false, "", "", 24⟩], 4, 32, .agg [.int .i64 0, .int .i64 0, .int .i64 0, .int .i64 0], .agg #[.int .i64 0, .int .i64 0, .int .i64 0, .int .i64 0], none, true, false⟩
def ti57 : TI := ⟨.func #[32, 40] #[4] false, 1, 8, .nilFn, .nilFunc, none, false, false⟩
def ti58 : TI := ⟨.func #[59, 59] #[4] false, 1, 8, .nilFn, .nilFunc, none, false, false⟩
def ti59 : TI := ⟨.slice 35, 1, 24, .nilS, .slice none 0 0, none, false, false⟩
def ti60 : TI := ⟨.func #[35] #[59] false, 1, 8, .nilFn, .nilFunc, none, false, false⟩
def ti61 : TI := ⟨.func #[35] #[4] false, 1, 8, .nilFn, .nilFunc, none, false, false⟩
def ti62 : TI := ⟨.map 63 4, 1, 8, .nilM, .map none, none, false, false⟩
def ti63 : TI := ⟨.array 2 3, 2, 16, .agg [.int .i64 0, .int .i64 0], .agg #[.int .i64 0, .int .i64 0], some (.arr 2), true, false⟩
def ti64 : TI := ⟨.int .i8, 1, 1, .int .i8 0, .int .i8 0, some (.int .i8), false, false⟩
def ti65 : TI := ⟨.pointer 69, 1, 8, .nilP, .pointer none, none, false, false⟩
def ti66 : TI := ⟨.slice 74, 1, 24, .nilS, .slice none 0 0, none, false, false⟩
def ti67 : TI := ⟨.func #[3, 22] #[66] false, 1, 8, .nilFn, .nilFunc, none, false, false⟩
def ti68 : TI := ⟨.struct #[⟨ "w", 66, 0, false, "", "dross/cluster", 0⟩, ⟨ "labels", 35, 1, false, "", "dross/cluster", 24⟩, ⟨ "best", 35, 2, false, "", "dross/cluster", 48⟩, ⟨ "least", 2, 3, false, "", "dross/cluster", 72⟩], 4, 80, .agg [.nilS, .nilS, .nilS, .int .i64 0], .agg #[.slice none 0 0, .slice none 0 0, .slice none 0 0, .int .i64 0], none, true, false⟩
def ti69 : TI := ⟨.struct #[⟨ "w", 66, 0, false, "", "dross/cluster", 0⟩, ⟨ "labels", 35, 1, false, "", "dross/cluster", 24⟩, ⟨ "best", 35, 2, false, "", "dross/cluster", 48⟩, ⟨ "least", 2, 3, false, "", "dross/cluster", 72⟩], 4, 80, .agg [.nilS, .nilS, .nilS, .int .i64 0], .agg #[.slice none 0 0, .slice none 0 0, .slice none 0 0, .int .i64 0], none, true, false⟩
def ti70 : TI := ⟨.func #[3, 3, 2] #[] false, 1, 8, .nilFn, .nilFunc, none, false, false⟩
def ti71 : TI := ⟨.func #[3] #[59] false, 1, 8, .nilFn, .nilFunc, none, false, false⟩
def ti72 : TI := ⟨.func #[22, 35] #[2] false, 1, 8, .nilFn, .nilFunc, none, false, false⟩
def ti73 : TI := ⟨.func #[66] #[66] false, 1, 8, .nilFn, .nilFunc, none, false, false⟩
def ti74 : TI := ⟨.slice 2, 1, 24, .nilS, .slice none 0 0, none, false, false⟩
def ti75 : TI := ⟨.func #[66, 3, 3, 3] #[4] false, 1, 8, .nilFn, .nilFunc, none, false, false⟩
def ti76 : TI := ⟨.func #[66, 56] #[] false, 1, 8, .nilFn, .nilFunc, none, false, false⟩
def ti77 : TI := ⟨.func #[22, 3, 3, 3] #[4] false, 1, 8, .nilFn, .nilFunc, none, false, false⟩
def ti78 : TI := ⟨.func #[28, 40] #[2] false, 1, 8, .nilFn, .nilFunc, none, false, false⟩
def ti79 : TI := ⟨.func #[56, 3] #[4] false, 1, 8, .nilFn, .nilFunc, none, false, false⟩
def ti80 : TI := ⟨.func #[2, 4] #[2] false, 1, 8, .nilFn, .nilFunc, none, false, false⟩
def ti81 : TI := ⟨.func #[35, 3] #[35] false, 1, 8, .nilFn, .nilFunc, none, false, false⟩
def ti82 : TI := ⟨.func #[22, 3, 3] #[2, 4] false, 1, 8, .nilFn, .nilFunc, none, false, false⟩
def ti83 : TI := ⟨.map 3 3, 1, 8, .nilM, .map none, none, false, false⟩
def ti85 : TI := ⟨.slice 63, 1, 24, .nilS, .slice none 0 0, none, false, false⟩
def ti86 : TI := ⟨.int .u64, 1, 8, .int .u64 0, .int .u64 0, some (.int .u64), false, false⟩
def ti88 : TI := ⟨.func #[86, 86] #[86, 86] false, 1, 8, .nilFn, .nilFunc, none, false, false⟩
def ti89 : TI := ⟨.int .u32, 1, 4, .int .u32 0, .int .u32 0, some (.int .u32), false, false⟩
def ti91 : TI := ⟨.func #[89, 89] #[89, 89] false, 1, 8, .nilFn, .nilFunc, none, false, false⟩
def ti92 : TI := ⟨.int .u64, 1, 8, .int .u64 0, .int .u64 0, some (.int .u64), false, false⟩
def ti94 : TI := ⟨.func #[92, 92] #[92, 92] false, 1, 8, .nilFn, .nilFunc, none, false, false⟩
def ti95 : TI := ⟨.func #[] #[9] false, 1, 8, .nilFn, .nilFunc, none, false, false⟩
def ti96 : TI := ⟨.struct #[⟨ "_interface", 17, 0, false, "", "runtime", 0⟩, ⟨ "concrete", 17, 1, false, "", "runtime", 8⟩, ⟨ "asserted", 17, 2, false, "", "runtime", 16⟩, ⟨ "missingMethod", 9, 3, false, "", "runtime", 24⟩], 4, 40, .agg [.nilP, .nilP, .nilP, .str ByteArray.empty], .agg #[.pointer none, .pointer none, .pointer none, .string ByteArray.empty], none, false, false⟩
def ti97 : TI := ⟨.struct #[⟨ "_interface", 17, 0, false, "", "runtime", 0⟩, ⟨ "concrete", 17, 1, false, "", "runtime", 8⟩, ⟨ "asserted", 17, 2, false, "", "runtime", 16⟩, ⟨ "missingMethod", 9, 3, false, "", "runtime", 24⟩], 4, 40, .agg [.nilP, .nilP, .nilP, .str ByteArray.empty], .agg #[.pointer none, .pointer none, .pointer none, .string ByteArray.empty], none, false, false⟩
def ti98 : TI := ⟨.array 0 16, 0, 0, .agg [], .agg #[], none, true, false⟩
def ti99 : TI := ⟨.struct #[⟨ "_", 98, 0, false, "", "runtime", 0⟩], 0, 0, .agg [], .agg #[], none, false, false⟩
def ti100 : TI := ⟨.struct #[⟨ "_", 98, 0, false, "", "runtime", 0⟩], 0, 0, .agg [], .agg #[], none, false, false⟩
def ti101 : TI := ⟨.func #[] #[3] false, 1, 8, .nilFn, .nilFunc, none, false, false⟩
def ti102 : TI := ⟨.int .u8, 1, 1, .int .u8 0, .int .u8 0, some (.int .u8), false, false⟩
def ti103 : TI := ⟨.int .u8, 1, 1, .int .u8 0, .int .u8 0, some (.int .u8), false, false⟩
def ti104 : TI := ⟨.func #[110, 110] #[4] false, 1, 8, .nilFn, .nilFunc, none, false, false⟩
def ti105 : TI := ⟨.pointer 5, 1, 8, .nilP, .pointer none, none, false, false⟩
def ti106 : TI := ⟨.int .i32, 1, 4, .int .i32 0, .int .i32 0, some (.int .i32), false, false⟩
def ti107 : TI := ⟨.int .i32, 1, 4, .int .i32 0, .int .i32 0, some (.int .i32), false, false⟩
def ti108 : TI := ⟨.struct #[⟨ "Size_", 12, 0, false, "", "", 0⟩, ⟨ "PtrBytes", 12, 1, false, "", "", 8⟩, ⟨ "Hash", 89, 2, false, "", "", 16⟩, ⟨ "TFlag", 102, 3, false, "", "", 20⟩, ⟨ "Align_", 5, 4, false, "", "", 21⟩, ⟨ "FieldAlign_", 5, 5, false, "", "", 22⟩, ⟨ "Kind_", 103, 6, false, "", "", 23⟩, ⟨ "Equal", 104, 7, false, "", "", 24⟩, ⟨ "GCData", 105, 8, false, "", "", 32⟩, ⟨ "Str", 106, 9, false, "", "", 40⟩, ⟨ "PtrToThis", 107, 10, false, "", "", 44⟩], 11, 48, .agg [.int .u64 0, .int .u64 0, .int .u32 0, .int .u8 0, .int .u8 0, .int .u8 0, .int .u8 0, .nilFn, .nilP, .int .i32 0, .int .i32 0], .agg #[.int .u64 0, .int .u64 0, .int .u32 0, .int .u8 0, .int .u8 0, .int .u8 0, .int .u8 0, .nilFunc, .pointer none, .int .i32 0, .int .i32 0], none, false, false⟩
def ti109 : TI := ⟨.struct #[⟨ "Size_", 12, 0, false, "", "", 0⟩, ⟨ "PtrBytes", 12, 1, false, "", "", 8⟩, ⟨ "Hash", 89, 2, false, "", "", 16⟩, ⟨ "TFlag", 102, 3, false, "", "", 20⟩, ⟨ "Align_", 5, 4, false, "", "", 21⟩, ⟨ "FieldAlign_", 5, 5, false, "", "", 22⟩, ⟨ "Kind_", 103, 6, false, "", "", 23⟩, ⟨ "Equal", 104, 7, false, "", "", 24⟩, ⟨ "GCData", 105, 8, false, "", "", 32⟩, ⟨ "Str", 106, 9, false, "", "", 40⟩, ⟨ "PtrToThis", 107, 10, false, "", "", 44⟩], 11, 48, .agg [.int .u64 0, .int .u64 0, .int .u32 0, .int .u8 0, .int .u8 0, .int .u8 0, .int .u8 0, .nilFn, .nilP, .int .i32 0, .int .i32 0], .agg #[.int .u64 0, .int .u64 0, .int .u32 0, .int .u8 0, .int .u8 0, .int .u8 0, .int .u8 0, .nilFunc, .pointer none, .int .i32 0, .int .i32 0], none, false, false⟩
def tys : List (Option TI) := [none, some ti1, some ti2, some ti3, some ti4, some ti5, some ti6, some ti7, some ti8, some ti9, some ti10, some ti11, some ti12, some ti13, some ti14, some ti15, some ti16, some ti17, some ti18, some ti19, none, some ti21, some ti22, some ti23, some ti24, some ti25, some ti26, some ti27, some ti28, some ti29, some ti30, some ti31, some ti32, none, some ti34, some ti35, none, some ti37, some ti38, some ti39, some ti40, none, some ti42, none, some ti44, some ti45, none, some ti47, some ti48, none, some ti50, some ti51, some ti52, some ti53, some ti54, some ti55, some ti56, some ti57, some ti58, some ti59, some ti60, some ti61, some ti62, some ti63, some ti64, some ti65, some ti66, some ti67, some ti68, some ti69, some ti70, some ti71, some ti72, some ti73, some ti74, some ti75, some ti76, some ti77, some ti78, some ti79, some ti80, some ti81, some ti82, some ti83, none, some ti85, some ti86, none, some ti88, some ti89, none, some ti91, some ti92, none, some ti94, some ti95, some ti96, some ti97, some ti98, some ti99, some ti100, some ti101, some ti102, some ti103, some ti104, some ti105, some ti106, some ti107, some ti108, some ti109]
def T : Ty := fun t => (tys[t]?).getD none
@[simp] theorem T_1 : T 1 = some ⟨.func #[] #[] false, 1, 8, .nilFn, .nilFunc, none, false, false⟩ := rfl
@[simp] theorem T_2 : T 2 = some ⟨.int .i64, 1, 8, .int .i64 0, .int .i64 0, some (.int .i64), false, false⟩ := rfl
@[simp] theorem T_3 : T 3 = some ⟨.int .i64, 1, 8, .int .i64 0, .int .i64 0, some (.int .i64), false, false⟩ := rfl
@[simp] theorem T_4 : T 4 = some ⟨.bool, 1, 1, .bool false, .bool false, some .bool, false, false⟩ := rfl
@[simp] theorem T_5 : T 5 = some ⟨.int .u8, 1, 1, .int .u8 0, .int .u8 0, some (.int .u8), false, false⟩ := rfl
@[simp] theorem T_6 : T 6 = some ⟨.int .u8, 1, 1, .int .u8 0, .int .u8 0, some (.int .u8), false, false⟩ := rfl
@[simp] theorem T_7 : T 7 = some ⟨.struct #[⟨ "x", 2, 0, false, "", "runtime", 0⟩, ⟨ "y", 3, 1, false, "", "runtime", 8⟩, ⟨ "signed", 4, 2, false, "", "runtime", 16⟩, ⟨ "code", 6, 3, false, "", "runtime", 17⟩], 4, 24, .agg [.int .i64 0, .int .i64 0, .bool false, .int .u8 0], .agg #[.int .i64 0, .int .i64 0, .bool false, .int .u8 0], none, true, false⟩ := rfl
@[simp] theorem T_8 : T 8 = some ⟨.struct #[⟨ "x", 2, 0, false, "", "runtime", 0⟩, ⟨ "y", 3, 1, false, "", "runtime", 8⟩, ⟨ "signed", 4, 2, false, "", "runtime", 16⟩, ⟨ "code", 6, 3, false, "", "runtime", 17⟩], 4, 24, .agg [.int .i64 0, .int .i64 0, .bool false, .int .u8 0], .agg #[.int .i64 0, .int .i64 0, .bool false, .int .u8 0], none, true, false⟩ := rfl
@[simp] theorem T_9 : T 9 = some ⟨.string, 1, 16, .str ByteArray.empty, .string ByteArray.empty, some .str, false, false⟩ := rfl
@[simp] theorem T_10 : T 10 = some ⟨.string, 1, 16, .str ByteArray.empty, .string ByteArray.empty, some .str, false, false⟩ := rfl
@[simp] theorem T_11 : T 11 = some ⟨.string, 1, 16, .str ByteArray.empty, .string ByteArray.empty, some .str, false, false⟩ := rfl
@[simp] theorem T_12 : T 12 = some ⟨.int .u64, 1, 8, .int .u64 0, .int .u64 0, some (.int .u64), false, false⟩ := rfl
@[simp] theorem T_13 : T 13 = some ⟨.struct #[⟨ "msg", 9, 0, false, "", "runtime", 0⟩, ⟨ "addr", 12, 1, false, "", "runtime", 16⟩], 2, 24, .agg [.str ByteArray.empty, .int .u64 0], .agg #[.string ByteArray.empty, .int .u64 0], none, false, false⟩ := rfl
@[simp] theorem T_14 : T 14 = some ⟨.struct #[⟨ "msg", 9, 0, false, "", "runtime", 0⟩, ⟨ "addr", 12, 1, false, "", "runtime", 16⟩], 2, 24, .agg [.str ByteArray.empty, .int .u64 0], .agg #[.string ByteArray.empty, .int .u64 0], none, false, false⟩ := rfl
@[simp] theorem T_15 : T 15 = some ⟨.pointer 97, 1, 8, .nilP, .pointer none, none, false, false⟩ := rfl
@[simp] theorem T_16 : T 16 = some ⟨.pointer 100, 1, 8, .nilP, .pointer none, none, false, false⟩ := rfl
@[simp] theorem T_17 : T 17 = some ⟨.pointer 109, 1, 8, .nilP, .pointer none, none, false, false⟩ := rfl
@[simp] theorem T_18 : T 18 = some ⟨.struct #[⟨ "typ", 17, 0, false, "", "internal/runtime/maps", 0⟩], 1, 8, .agg [.nilP], .agg #[.pointer none], none, false, false⟩ := rfl
@[simp] theorem T_19 : T 19 = some ⟨.struct #[⟨ "typ", 17, 0, false, "", "internal/runtime/maps", 0⟩], 1, 8, .agg [.nilP], .agg #[.pointer none], none, false, false⟩ := rfl
@[simp] theorem T_21 : T 21 = some ⟨.int .i32, 1, 4, .int .i32 0, .int .i32 0, some (.int .i32), false, false⟩ := rfl
@[simp] theorem T_22 : T 22 = some ⟨.slice 28, 1, 24, .nilS, .slice none 0 0, none, false, false⟩ := rfl
@[simp] theorem T_23 : T 23 = some ⟨.func #[] #[4] false, 1, 8, .nilFn, .nilFunc, none, false, false⟩ := rfl
@[simp] theorem T_24 : T 24 = some ⟨.int .i64, 1, 8, .int .i64 0, .int .i64 0, some (.int .i64), false, false⟩ := rfl
@[simp] theorem T_25 : T 25 = some ⟨.func #[3, 22] #[24] false, 1, 8, .nilFn, .nilFunc, none, false, false⟩ := rfl
@[simp] theorem T_26 : T 26 = some ⟨.func #[22] #[22] false, 1, 8, .nilFn, .nilFunc, none, false, false⟩ := rfl
@[simp] theorem T_27 : T 27 = some ⟨.struct #[⟨ "I", 3, 0, false, "", "", 0⟩, ⟨ "K", 3, 1, false, "", "", 8⟩, ⟨ "Weight", 2, 2, false, "", "", 16⟩], 3, 24, .agg [.int .i64 0, .int .i64 0, .int .i64 0], .agg #[.int .i64 0, .int .i64 0, .int .i64 0], none, true, false⟩ := rfl
@[simp] theorem T_28 : T 28 = some ⟨.struct #[⟨ "I", 3, 0, false, "", "", 0⟩, ⟨ "K", 3, 1, false, "", "", 8⟩, ⟨ "Weight", 2, 2, false, "", "", 16⟩], 3, 24, .agg [.int .i64 0, .int .i64 0, .int .i64 0], .agg #[.int .i64 0, .int .i64 0, .int .i64 0], none, true, false⟩ := rfl
@[simp] theorem T_29 : T 29 = some ⟨.func #[3, 22] #[4] false, 1, 8, .nilFn, .nilFunc, none, false, false⟩ := rfl
@[simp] theorem T_30 : T 30 = some ⟨.slice 64, 1, 24, .nilS, .slice none 0 0, none, false, false⟩ := rfl
@[simp] theorem T_31 : T 31 = some ⟨.struct #[⟨ "N", 5, 0, false, "", "", 0⟩, ⟨ "Weights", 30, 1, false, "", "", 8⟩], 2, 32, .agg [.int .u8 0, .nilS], .agg #[.int .u8 0, .slice none 0 0], none, true, false⟩ := rfl
@[simp] theorem T_32 : T 32 = some ⟨.struct #[⟨ "N", 5, 0, false, "", "", 0⟩, ⟨ "Weights", 30, 1, false, "", "", 8⟩], 2, 32, .agg [.int .u8 0, .nilS], .agg #[.int .u8 0, .slice none 0 0], none, true, false⟩ := rfl
@[simp] theorem T_34 : T 34 = some ⟨.func #[32, 3] #[3, 22, 4] false, 1, 8, .nilFn, .nilFunc, none, false, false⟩ := rfl
@[simp] theorem T_35 : T 35 = some ⟨.slice 3, 1, 24, .nilS, .slice none 0 0, none, false, false⟩ := rfl
@[simp] theorem T_37 : T 37 = some ⟨.func #[3, 22] #[35, 2, 24] false, 1, 8, .nilFn, .nilFunc, none, false, false⟩ := rfl
@[simp] theorem T_38 : T 38 = some ⟨.func #[35, 35] #[4] false, 1, 8, .nilFn, .nilFunc, none, false, false⟩ := rfl
@[simp] theorem T_39 : T 39 = some ⟨.func #[32] #[4] false, 1, 8, .nilFn, .nilFunc, none, false, false⟩ := rfl
@[simp] theorem T_40 : T 40 = some ⟨.slice 56, 1, 24, .nilS, .slice none 0 0, none, false, false⟩ := rfl
@[simp] theorem T_42 : T 42 = some ⟨.func #[3, 22] #[40, 2, 24] false, 1, 8, .nilFn, .nilFunc, none, false, false⟩ := rfl
@[simp] theorem T_44 : T 44 = some ⟨.func #[3, 22, 40] #[2, 4] false, 1, 8, .nilFn, .nilFunc, none, false, false⟩ := rfl
@[simp] theorem T_45 : T 45 = some ⟨.func #[3, 22, 40] #[4] false, 1, 8, .nilFn, .nilFunc, none, false, false⟩ := rfl
@[simp] theorem T_47 : T 47 = some ⟨.func #[3, 22, 35] #[2, 24] false, 1, 8, .nilFn, .nilFunc, none, false, false⟩ := rfl
@[simp] theorem T_48 : T 48 = some ⟨.func #[35] #[35] false, 1, 8, .nilFn, .nilFunc, none, false, false⟩ := rfl
@[simp] theorem T_50 : T 50 = some ⟨.func #[3, 22] #[35, 24] false, 1, 8, .nilFn, .nilFunc, none, false, false⟩ := rfl
@[simp] theorem T_51 : T 51 = some ⟨.func #[3, 22, 35] #[4] false, 1, 8, .nilFn, .nilFunc, none, false, false⟩ := rfl
@[simp] theorem T_52 : T 52 = some ⟨.slice 5, 1, 24, .nilS, .slice none 0 0, none, false, false⟩ := rfl
@[simp] theorem T_53 : T 53 = some ⟨.func #[32, 52, 5] #[4] false, 1, 8, .nilFn, .nilFunc, none, false, false⟩ := rfl
@[simp] theorem T_54 : T 54 = some ⟨.func #[40] #[40] false, 1, 8, .nilFn, .nilFunc, none, false, false⟩ := rfl
@[simp] theorem T_55 : T 55 = some ⟨.struct #[⟨ "I", 3, 0, false, "", "", 0⟩, ⟨ "J", 3, 1, false, "", "", 8⟩, ⟨ "K", 3, 2, false, "", "", 16⟩, ⟨ "Amount", 2, 3, false, "", "", 24⟩], 4, 32, .agg [.int .i64 0, .int .i64 0, .int .i64 0, .int .i64 0], .agg #[.int .i64 0, .int .i64 0, .int .i64 0, .int .i64 0], none, true, false⟩ := rfl
@[simp] theorem T_56 : T 56 = some ⟨.struct #[⟨ "I", 3, 0, false, "", "", 0⟩, ⟨ "J", 3, 1, false, "", "", 8⟩, ⟨ "K", 3, 2, false, "", "", 16⟩, ⟨ "Amount", 2, 3, false, "", "", 24⟩], 4, 32, .agg [.int .i64 0, .int .i64 0, .int .i64 0, .int .i64 0], .agg #[.int .i64 0, .int .i64 0, .int .i64 0, .int .i64 0], none, true, false⟩ := rfl
@[simp] theorem T_57 : T 57 = some ⟨.func #[32, 40] #[4] false, 1, 8, .nilFn, .nilFunc, none, false, false⟩ := rfl
@[simp] theorem T_58 : T 58 = some ⟨.func #[59, 59] #[4] false, 1, 8, .nilFn, .nilFunc, none, false, false⟩ := rfl
@[simp] theorem T_59 : T 59 = some ⟨.slice 35, 1, 24, .nilS, .slice none 0 0, none, false, false⟩ := rfl
@[simp] theorem T_60 : T 60 = some ⟨.func #[35] #[59] false, 1, 8, .nilFn, .nilFunc, none, false, false⟩ := rfl
@[simp] theorem T_61 : T 61 = some ⟨.func #[35] #[4] false, 1, 8, .nilFn, .nilFunc, none, false, false⟩ := rfl
@[simp] theorem T_62 : T 62 = some ⟨.map 63 4, 1, 8, .nilM, .map none, none, false, false⟩ := rfl
@[simp] theorem T_63 : T 63 = some ⟨.array 2 3, 2, 16, .agg [.int .i64 0, .int .i64 0], .agg #[.int .i64 0, .int .i64 0], some (.arr 2), true, false⟩ := rfl
@[simp] theorem T_64 : T 64 = some ⟨.int .i8, 1, 1, .int .i8 0, .int .i8 0, some (.int .i8), false, false⟩ := rfl
@[simp] theorem T_65 : T 65 = some ⟨.pointer 69, 1, 8, .nilP, .pointer none, none, false, false⟩ := rfl
@[simp] theorem T_66 : T 66 = some ⟨.slice 74, 1, 24, .nilS, .slice none 0 0, none, false, false⟩ := rfl
@[simp] theorem T_67 : T 67 = some ⟨.func #[3, 22] #[66] false, 1, 8, .nilFn, .nilFunc, none, false, false⟩ := rfl
@[simp] theorem T_68 : T 68 = some ⟨.struct #[⟨ "w", 66, 0, false, "", "dross/cluster", 0⟩, ⟨ "labels", 35, 1, false, "", "dross/cluster", 24⟩, ⟨ "best", 35, 2, false, "", "dross/cluster", 48⟩, ⟨ "least", 2, 3, false, "", "dross/cluster", 72⟩], 4, 80, .agg [.nilS, .nilS, .nilS, .int .i64 0], .agg #[.slice none 0 0, .slice none 0 0, .slice none 0 0, .int .i64 0], none, true, false⟩ := rfl
@[simp] theorem T_69 : T 69 = some ⟨.struct #[⟨ "w", 66, 0, false, "", "dross/cluster", 0⟩, ⟨ "labels", 35, 1, false, "", "dross/cluster", 24⟩, ⟨ "best", 35, 2, false, "", "dross/cluster", 48⟩, ⟨ "least", 2, 3, false, "", "dross/cluster", 72⟩], 4, 80, .agg [.nilS, .nilS, .nilS, .int .i64 0], .agg #[.slice none 0 0, .slice none 0 0, .slice none 0 0, .int .i64 0], none, true, false⟩ := rfl
@[simp] theorem T_70 : T 70 = some ⟨.func #[3, 3, 2] #[] false, 1, 8, .nilFn, .nilFunc, none, false, false⟩ := rfl
@[simp] theorem T_71 : T 71 = some ⟨.func #[3] #[59] false, 1, 8, .nilFn, .nilFunc, none, false, false⟩ := rfl
@[simp] theorem T_72 : T 72 = some ⟨.func #[22, 35] #[2] false, 1, 8, .nilFn, .nilFunc, none, false, false⟩ := rfl
@[simp] theorem T_73 : T 73 = some ⟨.func #[66] #[66] false, 1, 8, .nilFn, .nilFunc, none, false, false⟩ := rfl
@[simp] theorem T_74 : T 74 = some ⟨.slice 2, 1, 24, .nilS, .slice none 0 0, none, false, false⟩ := rfl
@[simp] theorem T_75 : T 75 = some ⟨.func #[66, 3, 3, 3] #[4] false, 1, 8, .nilFn, .nilFunc, none, false, false⟩ := rfl
@[simp] theorem T_76 : T 76 = some ⟨.func #[66, 56] #[] false, 1, 8, .nilFn, .nilFunc, none, false, false⟩ := rfl
@[simp] theorem T_77 : T 77 = some ⟨.func #[22, 3, 3, 3] #[4] false, 1, 8, .nilFn, .nilFunc, none, false, false⟩ := rfl
@[simp] theorem T_78 : T 78 = some ⟨.func #[28, 40] #[2] false, 1, 8, .nilFn, .nilFunc, none, false, false⟩ := rfl
@[simp] theorem T_79 : T 79 = some ⟨.func #[56, 3] #[4] false, 1, 8, .nilFn, .nilFunc, none, false, false⟩ := rfl
@[simp] theorem T_80 : T 80 = some ⟨.func #[2, 4] #[2] false, 1, 8, .nilFn, .nilFunc, none, false, false⟩ := rfl
@[simp] theorem T_81 : T 81 = some ⟨.func #[35, 3] #[35] false, 1, 8, .nilFn, .nilFunc, none, false, false⟩ := rfl
@[simp] theorem T_82 : T 82 = some ⟨.func #[22, 3, 3] #[2, 4] false, 1, 8, .nilFn, .nilFunc, none, false, false⟩ := rfl
@[simp] theorem T_83 : T 83 = some ⟨.map 3 3, 1, 8, .nilM, .map none, none, false, false⟩ := rfl
@[simp] theorem T_85 : T 85 = some ⟨.slice 63, 1, 24, .nilS, .slice none 0 0, none, false, false⟩ := rfl
@[simp] theorem T_86 : T 86 = some ⟨.int .u64, 1, 8, .int .u64 0, .int .u64 0, some (.int .u64), false, false⟩ := rfl
@[simp] theorem T_88 : T 88 = some ⟨.func #[86, 86] #[86, 86] false, 1, 8, .nilFn, .nilFunc, none, false, false⟩ := rfl
@[simp] theorem T_89 : T 89 = some ⟨.int .u32, 1, 4, .int .u32 0, .int .u32 0, some (.int .u32), false, false⟩ := rfl
@[simp] theorem T_91 : T 91 = some ⟨.func #[89, 89] #[89, 89] false, 1, 8, .nilFn, .nilFunc, none, false, false⟩ := rfl
@[simp] theorem T_92 : T 92 = some ⟨.int .u64, 1, 8, .int .u64 0, .int .u64 0, some (.int .u64), false, false⟩ := rfl
@[simp] theorem T_94 : T 94 = some ⟨.func #[92, 92] #[92, 92] false, 1, 8, .nilFn, .nilFunc, none, false, false⟩ := rfl
@[simp] theorem T_95 : T 95 = some ⟨.func #[] #[9] false, 1, 8, .nilFn, .nilFunc, none, false, false⟩ := rfl
@[simp] theorem T_96 : T 96 = some ⟨.struct #[⟨ "_interface", 17, 0, false, "", "runtime", 0⟩, ⟨ "concrete", 17, 1, false, "", "runtime", 8⟩, ⟨ "asserted", 17, 2, false, "", "runtime", 16⟩, ⟨ "missingMethod", 9, 3, false, "", "runtime", 24⟩], 4, 40, .agg [.nilP, .nilP, .nilP, .str ByteArray.empty], .agg #[.pointer none, .pointer none, .pointer none, .string ByteArray.empty], none, false, false⟩ := rfl
@[simp] theorem T_97 : T 97 = some ⟨.struct #[⟨ "_interface", 17, 0, false, "", "runtime", 0⟩, ⟨ "concrete", 17, 1, false, "", "runtime", 8⟩, ⟨ "asserted", 17, 2, false, "", "runtime", 16⟩, ⟨ "missingMethod", 9, 3, false, "", "runtime", 24⟩], 4, 40, .agg [.nilP, .nilP, .nilP, .str ByteArray.empty], .agg #[.pointer none, .pointer none, .pointer none, .string ByteArray.empty], none, false, false⟩ := rfl
@[simp] theorem T_98 : T 98 = some ⟨.array 0 16, 0, 0, .agg [], .agg #[], none, true, false⟩ := rfl
@[simp] theorem T_99 : T 99 = some ⟨.struct #[⟨ "_", 98, 0, false, "", "runtime", 0⟩], 0, 0, .agg [], .agg #[], none, false, false⟩ := rfl
@[simp] theorem T_100 : T 100 = some ⟨.struct #[⟨ "_", 98, 0, false, "", "runtime", 0⟩], 0, 0, .agg [], .agg #[], none, false, false⟩ := rfl
@[simp] theorem T_101 : T 101 = some ⟨.func #[] #[3] false, 1, 8, .nilFn, .nilFunc, none, false, false⟩ := rfl
@[simp] theorem T_102 : T 102 = some ⟨.int .u8, 1, 1, .int .u8 0, .int .u8 0, some (.int .u8), false, false⟩ := rfl
@[simp] theorem T_103 : T 103 = some ⟨.int .u8, 1, 1, .int .u8 0, .int .u8 0, some (.int .u8), false, false⟩ := rfl
@[simp] theorem T_104 : T 104 = some ⟨.func #[110, 110] #[4] false, 1, 8, .nilFn, .nilFunc, none, false, false⟩ := rfl
@[simp] theorem T_105 : T 105 = some ⟨.pointer 5, 1, 8, .nilP, .pointer none, none, false, false⟩ := rfl
@[simp] theorem T_106 : T 106 = some ⟨.int .i32, 1, 4, .int .i32 0, .int .i32 0, some (.int .i32), false, false⟩ := rfl
@[simp] theorem T_107 : T 107 = some ⟨.int .i32, 1, 4, .int .i32 0, .int .i32 0, some (.int .i32), false, false⟩ := rfl
@[simp] theorem T_108 : T 108 = some ⟨.struct #[⟨ "Size_", 12, 0, false, "", "", 0⟩, ⟨ "PtrBytes", 12, 1, false, "", "", 8⟩, ⟨ "Hash", 89, 2, false, "", "", 16⟩, ⟨ "TFlag", 102, 3, false, "", "", 20⟩, ⟨ "Align_", 5, 4, false, "", "", 21⟩, ⟨ "FieldAlign_", 5, 5, false, "", "", 22⟩, ⟨ "Kind_", 103, 6, false, "", "", 23⟩, ⟨ "Equal", 104, 7, false, "", "", 24⟩, ⟨ "GCData", 105, 8, false, "", "", 32⟩, ⟨ "Str", 106, 9, false, "", "", 40⟩, ⟨ "PtrToThis", 107, 10, false, "", "", 44⟩], 11, 48, .agg [.int .u64 0, .int .u64 0, .int .u32 0, .int .u8 0, .int .u8 0, .int .u8 0, .int .u8 0, .nilFn, .nilP, .int .i32 0, .int .i32 0], .agg #[.int .u64 0, .int .u64 0, .int .u32 0, .int .u8 0, .int .u8 0, .int .u8 0, .int .u8 0, .nilFunc, .pointer none, .int .i32 0, .int .i32 0], none, false, false⟩ := rfl
@[simp] theorem T_109 : T 109 = some ⟨.struct #[⟨ "Size_", 12, 0, false, "", "", 0⟩, ⟨ "PtrBytes", 12, 1, false, "", "", 8⟩, ⟨ "Hash", 89, 2, false, "", "", 16⟩, ⟨ "TFlag", 102, 3, false, "", "", 20⟩, ⟨ "Align_", 5, 4, false, "", "", 21⟩, ⟨ "FieldAlign_", 5, 5, false, "", "", 22⟩, ⟨ "Kind_", 103, 6, false, "", "", 23⟩, ⟨ "Equal", 104, 7, false, "", "", 24⟩, ⟨ "GCData", 105, 8, false, "", "", 32⟩, ⟨ "Str", 106, 9, false, "", "", 40⟩, ⟨ "PtrToThis", 107, 10, false, "", "", 44⟩], 11, 48, .agg [.int .u64 0, .int .u64 0, .int .u32 0, .int .u8 0, .int .u8 0, .int .u8 0, .int .u8 0, .nilFn, .nilP, .int .i32 0, .int .i32 0], .agg #[.int .u64 0, .int .u64 0, .int .u32 0, .int .u8 0, .int .u8 0, .int .u8 0, .int .u8 0, .nilFunc, .pointer none, .int .i32 0, .int .i32 0], none, false, false⟩ := rfl
theorem tr1 : TRow Try.prog 1 (some ti1) := fun i h => by cases h; exact ⟨Try.underlying1, by kernel_rfl, by kernel_rfl, by kernel_rfl, (fun _ h => by cases h), (fun h => by cases h)⟩
theorem tr2 : TRow Try.prog 2 (some ti2) := fun i h => by cases h; exact ⟨Try.underlying2, by kernel_rfl, by kernel_rfl, by kernel_rfl, (fun _ h => by cases h; exact int_law Try.underlying2), (fun h => by cases h)⟩
theorem tr3 : TRow Try.prog 3 (some ti3) := fun i h => by cases h; exact ⟨Try.underlying3, by kernel_rfl, by kernel_rfl, by kernel_rfl, (fun _ h => by cases h; exact int_law Try.underlying3), (fun h => by cases h)⟩
theorem tr4 : TRow Try.prog 4 (some ti4) := fun i h => by cases h; exact ⟨Try.underlying4, by kernel_rfl, by kernel_rfl, by kernel_rfl, (fun _ h => by cases h; exact bool_law Try.underlying4), (fun h => by cases h)⟩
theorem tr5 : TRow Try.prog 5 (some ti5) := fun i h => by cases h; exact ⟨Try.underlying5, by kernel_rfl, by kernel_rfl, by kernel_rfl, (fun _ h => by cases h; exact int_law Try.underlying5), (fun h => by cases h)⟩
theorem tr6 : TRow Try.prog 6 (some ti6) := fun i h => by cases h; exact ⟨Try.underlying6, by kernel_rfl, by kernel_rfl, by kernel_rfl, (fun _ h => by cases h; exact int_law Try.underlying6), (fun h => by cases h)⟩
theorem tr7 : TRow Try.prog 7 (some ti7) := fun i h => by cases h; exact ⟨Try.underlying7, by kernel_rfl, by kernel_rfl, by kernel_rfl, (fun _ h => by cases h), (fun _ => ⟨by kernel_rfl, by kernel_rfl⟩)⟩
theorem tr8 : TRow Try.prog 8 (some ti8) := fun i h => by cases h; exact ⟨Try.underlying8, by kernel_rfl, by kernel_rfl, by kernel_rfl, (fun _ h => by cases h), (fun _ => ⟨by kernel_rfl, by kernel_rfl⟩)⟩
theorem tr9 : TRow Try.prog 9 (some ti9) := fun i h => by cases h; exact ⟨Try.underlying9, by kernel_rfl, by kernel_rfl, by kernel_rfl, (fun _ h => by cases h; exact str_law Try.underlying9), (fun h => by cases h)⟩
theorem tr10 : TRow Try.prog 10 (some ti10) := fun i h => by cases h; exact ⟨Try.underlying10, by kernel_rfl, by kernel_rfl, by kernel_rfl, (fun _ h => by cases h; exact str_law Try.underlying10), (fun h => by cases h)⟩
theorem tr11 : TRow Try.prog 11 (some ti11) := fun i h => by cases h; exact ⟨Try.underlying11, by kernel_rfl, by kernel_rfl, by kernel_rfl, (fun _ h => by cases h; exact str_law Try.underlying11), (fun h => by cases h)⟩
theorem tr12 : TRow Try.prog 12 (some ti12) := fun i h => by cases h; exact ⟨Try.underlying12, by kernel_rfl, by kernel_rfl, by kernel_rfl, (fun _ h => by cases h; exact int_law Try.underlying12), (fun h => by cases h)⟩
theorem tr13 : TRow Try.prog 13 (some ti13) := fun i h => by cases h; exact ⟨Try.underlying13, by kernel_rfl, by kernel_rfl, by kernel_rfl, (fun _ h => by cases h), (fun h => by cases h)⟩
theorem tr14 : TRow Try.prog 14 (some ti14) := fun i h => by cases h; exact ⟨Try.underlying14, by kernel_rfl, by kernel_rfl, by kernel_rfl, (fun _ h => by cases h), (fun h => by cases h)⟩
theorem tr15 : TRow Try.prog 15 (some ti15) := fun i h => by cases h; exact ⟨Try.underlying15, by kernel_rfl, by kernel_rfl, by kernel_rfl, (fun _ h => by cases h), (fun h => by cases h)⟩
theorem tr16 : TRow Try.prog 16 (some ti16) := fun i h => by cases h; exact ⟨Try.underlying16, by kernel_rfl, by kernel_rfl, by kernel_rfl, (fun _ h => by cases h), (fun h => by cases h)⟩
theorem tr17 : TRow Try.prog 17 (some ti17) := fun i h => by cases h; exact ⟨Try.underlying17, by kernel_rfl, by kernel_rfl, by kernel_rfl, (fun _ h => by cases h), (fun h => by cases h)⟩
theorem tr18 : TRow Try.prog 18 (some ti18) := fun i h => by cases h; exact ⟨Try.underlying18, by kernel_rfl, by kernel_rfl, by kernel_rfl, (fun _ h => by cases h), (fun h => by cases h)⟩
theorem tr19 : TRow Try.prog 19 (some ti19) := fun i h => by cases h; exact ⟨Try.underlying19, by kernel_rfl, by kernel_rfl, by kernel_rfl, (fun _ h => by cases h), (fun h => by cases h)⟩
theorem tr21 : TRow Try.prog 21 (some ti21) := fun i h => by cases h; exact ⟨Try.underlying21, by kernel_rfl, by kernel_rfl, by kernel_rfl, (fun _ h => by cases h; exact int_law Try.underlying21), (fun h => by cases h)⟩
theorem tr22 : TRow Try.prog 22 (some ti22) := fun i h => by cases h; exact ⟨Try.underlying22, by kernel_rfl, by kernel_rfl, by kernel_rfl, (fun _ h => by cases h), (fun h => by cases h)⟩
theorem tr23 : TRow Try.prog 23 (some ti23) := fun i h => by cases h; exact ⟨Try.underlying23, by kernel_rfl, by kernel_rfl, by kernel_rfl, (fun _ h => by cases h), (fun h => by cases h)⟩
theorem tr24 : TRow Try.prog 24 (some ti24) := fun i h => by cases h; exact ⟨Try.underlying24, by kernel_rfl, by kernel_rfl, by kernel_rfl, (fun _ h => by cases h; exact int_law Try.underlying24), (fun h => by cases h)⟩
theorem tr25 : TRow Try.prog 25 (some ti25) := fun i h => by cases h; exact ⟨Try.underlying25, by kernel_rfl, by kernel_rfl, by kernel_rfl, (fun _ h => by cases h), (fun h => by cases h)⟩
theorem tr26 : TRow Try.prog 26 (some ti26) := fun i h => by cases h; exact ⟨Try.underlying26, by kernel_rfl, by kernel_rfl, by kernel_rfl, (fun _ h => by cases h), (fun h => by cases h)⟩
theorem tr27 : TRow Try.prog 27 (some ti27) := fun i h => by cases h; exact ⟨Try.underlying27, by kernel_rfl, by kernel_rfl, by kernel_rfl, (fun _ h => by cases h), (fun _ => ⟨by kernel_rfl, by kernel_rfl⟩)⟩
theorem tr28 : TRow Try.prog 28 (some ti28) := fun i h => by cases h; exact ⟨Try.underlying28, by kernel_rfl, by kernel_rfl, by kernel_rfl, (fun _ h => by cases h), (fun _ => ⟨by kernel_rfl, by kernel_rfl⟩)⟩
theorem tr29 : TRow Try.prog 29 (some ti29) := fun i h => by cases h; exact ⟨Try.underlying29, by kernel_rfl, by kernel_rfl, by kernel_rfl, (fun _ h => by cases h), (fun h => by cases h)⟩
theorem tr30 : TRow Try.prog 30 (some ti30) := fun i h => by cases h; exact ⟨Try.underlying30, by kernel_rfl, by kernel_rfl, by kernel_rfl, (fun _ h => by cases h), (fun h => by cases h)⟩
theorem tr31 : TRow Try.prog 31 (some ti31) := fun i h => by cases h; exact ⟨Try.underlying31, by kernel_rfl, by kernel_rfl, by kernel_rfl, (fun _ h => by cases h), (fun _ => ⟨by kernel_rfl, by kernel_rfl⟩)⟩
theorem tr32 : TRow Try.prog 32 (some ti32) := fun i h => by cases h; exact ⟨Try.underlying32, by kernel_rfl, by kernel_rfl, by kernel_rfl, (fun _ h => by cases h), (fun _ => ⟨by kernel_rfl, by kernel_rfl⟩)⟩
theorem tr34 : TRow Try.prog 34 (some ti34) := fun i h => by cases h; exact ⟨Try.underlying34, by kernel_rfl, by kernel_rfl, by kernel_rfl, (fun _ h => by cases h), (fun h => by cases h)⟩
theorem tr35 : TRow Try.prog 35 (some ti35) := fun i h => by cases h; exact ⟨Try.underlying35, by kernel_rfl, by kernel_rfl, by kernel_rfl, (fun _ h => by cases h), (fun h => by cases h)⟩
theorem tr37 : TRow Try.prog 37 (some ti37) := fun i h => by cases h; exact ⟨Try.underlying37, by kernel_rfl, by kernel_rfl, by kernel_rfl, (fun _ h => by cases h), (fun h => by cases h)⟩
theorem tr38 : TRow Try.prog 38 (some ti38) := fun i h => by cases h; exact ⟨Try.underlying38, by kernel_rfl, by kernel_rfl, by kernel_rfl, (fun _ h => by cases h), (fun h => by cases h)⟩
theorem tr39 : TRow Try.prog 39 (some ti39) := fun i h => by cases h; exact ⟨Try.underlying39, by kernel_rfl, by kernel_rfl, by kernel_rfl, (fun _ h => by cases h), (fun h => by cases h)⟩
theorem tr40 : TRow Try.prog 40 (some ti40) := fun i h => by cases h; exact ⟨Try.underlying40, by kernel_rfl, by kernel_rfl, by kernel_rfl, (fun _ h => by cases h), (fun h => by cases h)⟩
theorem tr42 : TRow Try.prog 42 (some ti42) := fun i h => by cases h; exact ⟨Try.underlying42, by kernel_rfl, by kernel_rfl, by kernel_rfl, (fun _ h => by cases h), (fun h => by cases h)⟩
theorem tr44 : TRow Try.prog 44 (some ti44) := fun i h => by cases h; exact ⟨Try.underlying44, by kernel_rfl, by kernel_rfl, by kernel_rfl, (fun _ h => by cases h), (fun h => by cases h)⟩
theorem tr45 : TRow Try.prog 45 (some ti45) := fun i h => by cases h; exact ⟨Try.underlying45, by kernel_rfl, by kernel_rfl, by kernel_rfl, (fun _ h => by cases h), (fun h => by cases h)⟩
theorem tr47 : TRow Try.prog 47 (some ti47) := fun i h => by cases h; exact ⟨Try.underlying47, by kernel_rfl, by kernel_rfl, by kernel_rfl, (fun _ h => by cases h), (fun h => by cases h)⟩
theorem tr48 : TRow Try.prog 48 (some ti48) := fun i h => by cases h; exact ⟨Try.underlying48, by kernel_rfl, by kernel_rfl, by kernel_rfl, (fun _ h => by cases h), (fun h => by cases h)⟩
theorem tr50 : TRow Try.prog 50 (some ti50) := fun i h => by cases h; exact ⟨Try.underlying50, by kernel_rfl, by kernel_rfl, by kernel_rfl, (fun _ h => by cases h), (fun h => by cases h)⟩
theorem tr51 : TRow Try.prog 51 (some ti51) := fun i h => by cases h; exact ⟨Try.underlying51, by kernel_rfl, by kernel_rfl, by kernel_rfl, (fun _ h => by cases h), (fun h => by cases h)⟩
theorem tr52 : TRow Try.prog 52 (some ti52) := fun i h => by cases h; exact ⟨Try.underlying52, by kernel_rfl, by kernel_rfl, by kernel_rfl, (fun _ h => by cases h), (fun h => by cases h)⟩
theorem tr53 : TRow Try.prog 53 (some ti53) := fun i h => by cases h; exact ⟨Try.underlying53, by kernel_rfl, by kernel_rfl, by kernel_rfl, (fun _ h => by cases h), (fun h => by cases h)⟩
theorem tr54 : TRow Try.prog 54 (some ti54) := fun i h => by cases h; exact ⟨Try.underlying54, by kernel_rfl, by kernel_rfl, by kernel_rfl, (fun _ h => by cases h), (fun h => by cases h)⟩
theorem tr55 : TRow Try.prog 55 (some ti55) := fun i h => by cases h; exact ⟨Try.underlying55, by kernel_rfl, by kernel_rfl, by kernel_rfl, (fun _ h => by cases h), (fun _ => ⟨by kernel_rfl, by kernel_rfl⟩)⟩
theorem tr56 : TRow Try.prog 56 (some ti56) := fun i h => by cases h; exact ⟨Try.underlying56, by kernel_rfl, by kernel_rfl, by kernel_rfl, (fun _ h => by cases h), (fun _ => ⟨by kernel_rfl, by kernel_rfl⟩)⟩
theorem tr57 : TRow Try.prog 57 (some ti57) := fun i h => by cases h; exact ⟨Try.underlying57, by kernel_rfl, by kernel_rfl, by kernel_rfl, (fun _ h => by cases h), (fun h => by cases h)⟩
theorem tr58 : TRow Try.prog 58 (some ti58) := fun i h => by cases h; exact ⟨Try.underlying58, by kernel_rfl, by kernel_rfl, by kernel_rfl, (fun _ h => by cases h), (fun h => by cases h)⟩
theorem tr59 : TRow Try.prog 59 (some ti59) := fun i h => by cases h; exact ⟨Try.underlying59, by kernel_rfl, by kernel_rfl, by kernel_rfl, (fun _ h => by cases h), (fun h => by cases h)⟩
theorem tr60 : TRow Try.prog 60 (some ti60) := fun i h => by cases h; exact ⟨Try.underlying60, by kernel_rfl, by kernel_rfl, by kernel_rfl, (fun _ h => by cases h), (fun h => by cases h)⟩
theorem tr61 : TRow Try.prog 61 (some ti61) := fun i h => by cases h; exact ⟨Try.underlying61, by kernel_rfl, by kernel_rfl, by kernel_rfl, (fun _ h => by cases h), (fun h => by cases h)⟩
theorem tr62 : TRow Try.prog 62 (some ti62) := fun i h => by cases h; exact ⟨Try.underlying62, by kernel_rfl, by kernel_rfl, by kernel_rfl, (fun _ h => by cases h), (fun h => by cases h)⟩
theorem tr63 : TRow Try.prog 63 (some ti63) := fun i h => by cases h; exact ⟨Try.underlying63, by kernel_rfl, by kernel_rfl, by kernel_rfl, (fun _ h => by cases h; exact arr_law Try.underlying63 Try.underlying3 (by kernel_rfl)), (fun _ => ⟨by kernel_rfl, by kernel_rfl⟩)⟩
theorem tr64 : TRow Try.prog 64 (some ti64) := fun i h => by cases h; exact ⟨Try.underlying64, by kernel_rfl, by kernel_rfl, by kernel_rfl, (fun _ h => by cases h; exact int_law Try.underlying64), (fun h => by cases h)⟩
theorem tr65 : TRow Try.prog 65 (some ti65) := fun i h => by cases h; exact ⟨Try.underlying65, by kernel_rfl, by kernel_rfl, by kernel_rfl, (fun _ h => by cases h), (fun h => by cases h)⟩
theorem tr66 : TRow Try.prog 66 (some ti66) := fun i h => by cases h; exact ⟨Try.underlying66, by kernel_rfl, by kernel_rfl, by kernel_rfl, (fun _ h => by cases h), (fun h => by cases h)⟩
theorem tr67 : TRow Try.prog 67 (some ti67) := fun i h => by cases h; exact ⟨Try.underlying67, by kernel_rfl, by kernel_rfl, by kernel_rfl, (fun _ h => by cases h), (fun h => by cases h)⟩
theorem tr68 : TRow Try.prog 68 (some ti68) := fun i h => by cases h; exact ⟨Try.underlying68, by kernel_rfl, by kernel_rfl, by kernel_rfl, (fun _ h => by cases h), (fun _ => ⟨by kernel_rfl, by kernel_rfl⟩)⟩
theorem tr69 : TRow Try.prog 69 (some ti69) := fun i h => by cases h; exact ⟨Try.underlying69, by kernel_rfl, by kernel_rfl, by kernel_rfl, (fun _ h => by cases h), (fun _ => ⟨by kernel_rfl, by kernel_rfl⟩)⟩
theorem tr70 : TRow Try.prog 70 (some ti70) := fun i h => by cases h; exact ⟨Try.underlying70, by kernel_rfl, by kernel_rfl, by kernel_rfl, (fun _ h => by cases h), (fun h => by cases h)⟩
theorem tr71 : TRow Try.prog 71 (some ti71) := fun i h => by cases h; exact ⟨Try.underlying71, by kernel_rfl, by kernel_rfl, by kernel_rfl, (fun _ h => by cases h), (fun h => by cases h)⟩
theorem tr72 : TRow Try.prog 72 (some ti72) := fun i h => by cases h; exact ⟨Try.underlying72, by kernel_rfl, by kernel_rfl, by kernel_rfl, (fun _ h => by cases h), (fun h => by cases h)⟩
theorem tr73 : TRow Try.prog 73 (some ti73) := fun i h => by cases h; exact ⟨Try.underlying73, by kernel_rfl, by kernel_rfl, by kernel_rfl, (fun _ h => by cases h), (fun h => by cases h)⟩
theorem tr74 : TRow Try.prog 74 (some ti74) := fun i h => by cases h; exact ⟨Try.underlying74, by kernel_rfl, by kernel_rfl, by kernel_rfl, (fun _ h => by cases h), (fun h => by cases h)⟩
theorem tr75 : TRow Try.prog 75 (some ti75) := fun i h => by cases h; exact ⟨Try.underlying75, by kernel_rfl, by kernel_rfl, by kernel_rfl, (fun _ h => by cases h), (fun h => by cases h)⟩
theorem tr76 : TRow Try.prog 76 (some ti76) := fun i h => by cases h; exact ⟨Try.underlying76, by kernel_rfl, by kernel_rfl, by kernel_rfl, (fun _ h => by cases h), (fun h => by cases h)⟩
theorem tr77 : TRow Try.prog 77 (some ti77) := fun i h => by cases h; exact ⟨Try.underlying77, by kernel_rfl, by kernel_rfl, by kernel_rfl, (fun _ h => by cases h), (fun h => by cases h)⟩
theorem tr78 : TRow Try.prog 78 (some ti78) := fun i h => by cases h; exact ⟨Try.underlying78, by kernel_rfl, by kernel_rfl, by kernel_rfl, (fun _ h => by cases h), (fun h => by cases h)⟩
theorem tr79 : TRow Try.prog 79 (some ti79) := fun i h => by cases h; exact ⟨Try.underlying79, by kernel_rfl, by kernel_rfl, by kernel_rfl, (fun _ h => by cases h), (fun h => by cases h)⟩
theorem tr80 : TRow Try.prog 80 (some ti80) := fun i h => by cases h; exact ⟨Try.underlying80, by kernel_rfl, by kernel_rfl, by kernel_rfl, (fun _ h => by cases h), (fun h => by cases h)⟩
theorem tr81 : TRow Try.prog 81 (some ti81) := fun i h => by cases h; exact ⟨Try.underlying81, by kernel_rfl, by kernel_rfl, by kernel_rfl, (fun _ h => by cases h), (fun h => by cases h)⟩
theorem tr82 : TRow Try.prog 82 (some ti82) := fun i h => by cases h; exact ⟨Try.underlying82, by kernel_rfl, by kernel_rfl, by kernel_rfl, (fun _ h => by cases h), (fun h => by cases h)⟩
theorem tr83 : TRow Try.prog 83 (some ti83) := fun i h => by cases h; exact ⟨Try.underlying83, by kernel_rfl, by kernel_rfl, by kernel_rfl, (fun _ h => by cases h), (fun h => by cases h)⟩
theorem tr85 : TRow Try.prog 85 (some ti85) := fun i h => by cases h; exact ⟨Try.underlying85, by kernel_rfl, by kernel_rfl, by kernel_rfl, (fun _ h => by cases h), (fun h => by cases h)⟩
theorem tr86 : TRow Try.prog 86 (some ti86) := fun i h => by cases h; exact ⟨Try.underlying86, by kernel_rfl, by kernel_rfl, by kernel_rfl, (fun _ h => by cases h; exact int_law Try.underlying86), (fun h => by cases h)⟩
theorem tr88 : TRow Try.prog 88 (some ti88) := fun i h => by cases h; exact ⟨Try.underlying88, by kernel_rfl, by kernel_rfl, by kernel_rfl, (fun _ h => by cases h), (fun h => by cases h)⟩
theorem tr89 : TRow Try.prog 89 (some ti89) := fun i h => by cases h; exact ⟨Try.underlying89, by kernel_rfl, by kernel_rfl, by kernel_rfl, (fun _ h => by cases h; exact int_law Try.underlying89), (fun h => by cases h)⟩
theorem tr91 : TRow Try.prog 91 (some ti91) := fun i h => by cases h; exact ⟨Try.underlying91, by kernel_rfl, by kernel_rfl, by kernel_rfl, (fun _ h => by cases h), (fun h => by cases h)⟩
theorem tr92 : TRow Try.prog 92 (some ti92) := fun i h => by cases h; exact ⟨Try.underlying92, by kernel_rfl, by kernel_rfl, by kernel_rfl, (fun _ h => by cases h; exact int_law Try.underlying92), (fun h => by cases h)⟩
theorem tr94 : TRow Try.prog 94 (some ti94) := fun i h => by cases h; exact ⟨Try.underlying94, by kernel_rfl, by kernel_rfl, by kernel_rfl, (fun _ h => by cases h), (fun h => by cases h)⟩
theorem tr95 : TRow Try.prog 95 (some ti95) := fun i h => by cases h; exact ⟨Try.underlying95, by kernel_rfl, by kernel_rfl, by kernel_rfl, (fun _ h => by cases h), (fun h => by cases h)⟩
theorem tr96 : TRow Try.prog 96 (some ti96) := fun i h => by cases h; exact ⟨Try.underlying96, by kernel_rfl, by kernel_rfl, by kernel_rfl, (fun _ h => by cases h), (fun h => by cases h)⟩
theorem tr97 : TRow Try.prog 97 (some ti97) := fun i h => by cases h; exact ⟨Try.underlying97, by kernel_rfl, by kernel_rfl, by kernel_rfl, (fun _ h => by cases h), (fun h => by cases h)⟩
theorem tr98 : TRow Try.prog 98 (some ti98) := fun i h => by cases h; exact ⟨Try.underlying98, by kernel_rfl, by kernel_rfl, by kernel_rfl, (fun _ h => by cases h), (fun _ => ⟨by kernel_rfl, by kernel_rfl⟩)⟩
theorem tr99 : TRow Try.prog 99 (some ti99) := fun i h => by cases h; exact ⟨Try.underlying99, by kernel_rfl, by kernel_rfl, by kernel_rfl, (fun _ h => by cases h), (fun h => by cases h)⟩
theorem tr100 : TRow Try.prog 100 (some ti100) := fun i h => by cases h; exact ⟨Try.underlying100, by kernel_rfl, by kernel_rfl, by kernel_rfl, (fun _ h => by cases h), (fun h => by cases h)⟩
theorem tr101 : TRow Try.prog 101 (some ti101) := fun i h => by cases h; exact ⟨Try.underlying101, by kernel_rfl, by kernel_rfl, by kernel_rfl, (fun _ h => by cases h), (fun h => by cases h)⟩
theorem tr102 : TRow Try.prog 102 (some ti102) := fun i h => by cases h; exact ⟨Try.underlying102, by kernel_rfl, by kernel_rfl, by kernel_rfl, (fun _ h => by cases h; exact int_law Try.underlying102), (fun h => by cases h)⟩
theorem tr103 : TRow Try.prog 103 (some ti103) := fun i h => by cases h; exact ⟨Try.underlying103, by kernel_rfl, by kernel_rfl, by kernel_rfl, (fun _ h => by cases h; exact int_law Try.underlying103), (fun h => by cases h)⟩
theorem tr104 : TRow Try.prog 104 (some ti104) := fun i h => by cases h; exact ⟨Try.underlying104, by kernel_rfl, by kernel_rfl, by kernel_rfl, (fun _ h => by cases h), (fun h => by cases h)⟩
theorem tr105 : TRow Try.prog 105 (some ti105) := fun i h => by cases h; exact ⟨Try.underlying105, by kernel_rfl, by kernel_rfl, by kernel_rfl, (fun _ h => by cases h), (fun h => by cases h)⟩
theorem tr106 : TRow Try.prog 106 (some ti106) := fun i h => by cases h; exact ⟨Try.underlying106, by kernel_rfl, by kernel_rfl, by kernel_rfl, (fun _ h => by cases h; exact int_law Try.underlying106), (fun h => by cases h)⟩
theorem tr107 : TRow Try.prog 107 (some ti107) := fun i h => by cases h; exact ⟨Try.underlying107, by kernel_rfl, by kernel_rfl, by kernel_rfl, (fun _ h => by cases h; exact int_law Try.underlying107), (fun h => by cases h)⟩
theorem tr108 : TRow Try.prog 108 (some ti108) := fun i h => by cases h; exact ⟨Try.underlying108, by kernel_rfl, by kernel_rfl, by kernel_rfl, (fun _ h => by cases h), (fun h => by cases h)⟩
theorem tr109 : TRow Try.prog 109 (some ti109) := fun i h => by cases h; exact ⟨Try.underlying109, by kernel_rfl, by kernel_rfl, by kernel_rfl, (fun _ h => by cases h), (fun h => by cases h)⟩
set_option maxRecDepth 100000 in
theorem trows : TRows Try.prog 0 tys :=
  trows_cons trow_none <|
  trows_cons tr1 <|
  trows_cons tr2 <|
  trows_cons tr3 <|
  trows_cons tr4 <|
  trows_cons tr5 <|
  trows_cons tr6 <|
  trows_cons tr7 <|
  trows_cons tr8 <|
  trows_cons tr9 <|
  trows_cons tr10 <|
  trows_cons tr11 <|
  trows_cons tr12 <|
  trows_cons tr13 <|
  trows_cons tr14 <|
  trows_cons tr15 <|
  trows_cons tr16 <|
  trows_cons tr17 <|
  trows_cons tr18 <|
  trows_cons tr19 <|
  trows_cons trow_none <|
  trows_cons tr21 <|
  trows_cons tr22 <|
  trows_cons tr23 <|
  trows_cons tr24 <|
  trows_cons tr25 <|
  trows_cons tr26 <|
  trows_cons tr27 <|
  trows_cons tr28 <|
  trows_cons tr29 <|
  trows_cons tr30 <|
  trows_cons tr31 <|
  trows_cons tr32 <|
  trows_cons trow_none <|
  trows_cons tr34 <|
  trows_cons tr35 <|
  trows_cons trow_none <|
  trows_cons tr37 <|
  trows_cons tr38 <|
  trows_cons tr39 <|
  trows_cons tr40 <|
  trows_cons trow_none <|
  trows_cons tr42 <|
  trows_cons trow_none <|
  trows_cons tr44 <|
  trows_cons tr45 <|
  trows_cons trow_none <|
  trows_cons tr47 <|
  trows_cons tr48 <|
  trows_cons trow_none <|
  trows_cons tr50 <|
  trows_cons tr51 <|
  trows_cons tr52 <|
  trows_cons tr53 <|
  trows_cons tr54 <|
  trows_cons tr55 <|
  trows_cons tr56 <|
  trows_cons tr57 <|
  trows_cons tr58 <|
  trows_cons tr59 <|
  trows_cons tr60 <|
  trows_cons tr61 <|
  trows_cons tr62 <|
  trows_cons tr63 <|
  trows_cons tr64 <|
  trows_cons tr65 <|
  trows_cons tr66 <|
  trows_cons tr67 <|
  trows_cons tr68 <|
  trows_cons tr69 <|
  trows_cons tr70 <|
  trows_cons tr71 <|
  trows_cons tr72 <|
  trows_cons tr73 <|
  trows_cons tr74 <|
  trows_cons tr75 <|
  trows_cons tr76 <|
  trows_cons tr77 <|
  trows_cons tr78 <|
  trows_cons tr79 <|
  trows_cons tr80 <|
  trows_cons tr81 <|
  trows_cons tr82 <|
  trows_cons tr83 <|
  trows_cons trow_none <|
  trows_cons tr85 <|
  trows_cons tr86 <|
  trows_cons trow_none <|
  trows_cons tr88 <|
  trows_cons tr89 <|
  trows_cons trow_none <|
  trows_cons tr91 <|
  trows_cons tr92 <|
  trows_cons trow_none <|
  trows_cons tr94 <|
  trows_cons tr95 <|
  trows_cons tr96 <|
  trows_cons tr97 <|
  trows_cons tr98 <|
  trows_cons tr99 <|
  trows_cons tr100 <|
  trows_cons tr101 <|
  trows_cons tr102 <|
  trows_cons tr103 <|
  trows_cons tr104 <|
  trows_cons tr105 <|
  trows_cons tr106 <|
  trows_cons tr107 <|
  trows_cons tr108 <|
  trows_cons tr109 <|
  trows_nil
theorem tok : TOk Try.prog T := tok_rows trows
end Go.Proofs.Ytmjicfafjjgekaa
