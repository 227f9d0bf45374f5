/- Ty: the types of this seat for the abstract machine, printed by mkty.py. -/
import Derived.Test.YteijbpppalhihaaGreatProg
import Derived.Test.YteijbpppalhihaaGreatAMe
set_option linter.unusedVariables false
set_option linter.unusedSimpArgs false
namespace Go.Proofs.YteijbpppalhihaaGreat
open Go Go.AM
def ti1 : TI := ⟨.func #[] #[] false, 1, 8, .nilFn, .nilFunc, none, false, false⟩
def ti2 : TI := ⟨.int .i64, 1, 8, .int .i64 0, .int .i64 0, some (.int .i64), false, false⟩
def ti3 : TI := ⟨.int .i64, 1, 8, .int .i64 0, .int .i64 0, some (.int .i64), false, false⟩
def ti4 : TI := ⟨.bool, 1, 1, .bool false, .bool false, some .bool, false, false⟩
def ti5 : TI := ⟨.int .u8, 1, 1, .int .u8 0, .int .u8 0, some (.int .u8), false, false⟩
def ti6 : TI := ⟨.int .u8, 1, 1, .int .u8 0, .int .u8 0, some (.int .u8), false, false⟩
def ti7 : TI := ⟨.struct #[⟨ "x", 2, 0, false, "", "runtime", 0⟩, ⟨ "y", 3, 1, false, "", "runtime", 8⟩, ⟨ "signed", 4, 2, false, "", "runtime", 16⟩, ⟨ "code", 6, 3, false, "", "runtime", 17⟩], 4, 24, .agg [.int .i64 0, .int .i64 0, .bool false, .int .u8 0], .agg #[.int .i64 0, .int .i64 0, .bool false, .int .u8 0], none, true, false⟩
def ti8 : TI := ⟨.struct #[⟨ "x", 2, 0, false, "", "runtime", 0⟩, ⟨ "y", 3, 1, false, "", "runtime", 8⟩, ⟨ "signed", 4, 2, false, "", "runtime", 16⟩, ⟨ "code", 6, 3, false, "", "runtime", 17⟩], 4, 24, .agg [.int .i64 0, .int .i64 0, .bool false, .int .u8 0], .agg #[.int .i64 0, .int .i64 0, .bool false, .int .u8 0], none, true, false⟩
def ti9 : TI := ⟨.string, 1, 16, .str ByteArray.empty, .string ByteArray.empty, some .str, false, false⟩
def ti10 : TI := ⟨.string, 1, 16, .str ByteArray.empty, .string ByteArray.empty, some .str, false, false⟩
def ti11 : TI := ⟨.string, 1, 16, .str ByteArray.empty, .string ByteArray.empty, some .str, false, false⟩
def ti12 : TI := ⟨.int .u64, 1, 8, .int .u64 0, .int .u64 0, some (.int .u64), false, false⟩
def ti13 : TI := ⟨.struct #[⟨ "msg", 9, 0, false, "", "runtime", 0⟩, ⟨ "addr", 12, 1, false, "", "runtime", 16⟩], 2, 24, .agg [.str ByteArray.empty, .int .u64 0], .agg #[.string ByteArray.empty, .int .u64 0], none, false, false⟩
def ti14 : TI := ⟨.struct #[⟨ "msg", 9, 0, false, "", "runtime", 0⟩, ⟨ "addr", 12, 1, false, "", "runtime", 16⟩], 2, 24, .agg [.str ByteArray.empty, .int .u64 0], .agg #[.string ByteArray.empty, .int .u64 0], none, false, false⟩
def ti15 : TI := ⟨.pointer 278, 1, 8, .nilP, .pointer none, none, false, false⟩
def ti16 : TI := ⟨.pointer 281, 1, 8, .nilP, .pointer none, none, false, false⟩
def ti17 : TI := ⟨.pointer 289, 1, 8, .nilP, .pointer none, none, false, false⟩
def ti18 : TI := ⟨.struct #[⟨ "typ", 17, 0, false, "", "internal/runtime/maps", 0⟩], 1, 8, .agg [.nilP], .agg #[.pointer none], none, false, false⟩
def ti19 : TI := ⟨.struct #[⟨ "typ", 17, 0, false, "", "internal/runtime/maps", 0⟩], 1, 8, .agg [.nilP], .agg #[.pointer none], none, false, false⟩
def ti21 : TI := ⟨.int .i32, 1, 4, .int .i32 0, .int .i32 0, some (.int .i32), false, false⟩
def ti22 : TI := ⟨.slice 155, 1, 24, .nilS, .slice none 0 0, none, false, false⟩
def ti23 : TI := ⟨.struct #[⟨ "Attrs", 5, 0, false, "", "", 0⟩, ⟨ "Gap", 5, 1, false, "", "", 1⟩, ⟨ "Rows", 22, 2, false, "", "", 8⟩], 3, 32, .agg [.int .u8 0, .int .u8 0, .nilS], .agg #[.int .u8 0, .int .u8 0, .slice none 0 0], none, true, false⟩
def ti24 : TI := ⟨.struct #[⟨ "Attrs", 5, 0, false, "", "", 0⟩, ⟨ "Gap", 5, 1, false, "", "", 1⟩, ⟨ "Rows", 22, 2, false, "", "", 8⟩], 3, 32, .agg [.int .u8 0, .int .u8 0, .nilS], .agg #[.int .u8 0, .int .u8 0, .slice none 0 0], none, true, false⟩
def ti25 : TI := ⟨.slice 158, 1, 24, .nilS, .slice none 0 0, none, false, false⟩
def ti26 : TI := ⟨.struct #[⟨ "T", 24, 0, false, "", "", 0⟩, ⟨ "F", 25, 3, false, "", "", 32⟩], 4, 56, .agg [.int .u8 0, .int .u8 0, .nilS, .nilS], .agg #[.int .u8 0, .int .u8 0, .slice none 0 0, .slice none 0 0], none, true, false⟩
def ti27 : TI := ⟨.struct #[⟨ "T", 24, 0, false, "", "", 0⟩, ⟨ "F", 25, 3, false, "", "", 32⟩], 4, 56, .agg [.int .u8 0, .int .u8 0, .nilS, .nilS], .agg #[.int .u8 0, .int .u8 0, .slice none 0 0, .slice none 0 0], none, true, false⟩
def ti28 : TI := ⟨.int .u16, 1, 2, .int .u16 0, .int .u16 0, some (.int .u16), false, false⟩
def ti29 : TI := ⟨.slice 9, 1, 24, .nilS, .slice none 0 0, none, false, false⟩
def ti30 : TI := ⟨.slice 66, 1, 24, .nilS, .slice none 0 0, none, false, false⟩
def ti31 : TI := ⟨.struct #[⟨ "Name", 9, 0, false, "", "", 0⟩, ⟨ "Attrs", 29, 1, false, "", "", 16⟩, ⟨ "Rows", 30, 2, false, "", "", 40⟩], 3, 64, .agg [.str ByteArray.empty, .nilS, .nilS], .agg #[.string ByteArray.empty, .slice none 0 0, .slice none 0 0], none, true, false⟩
def ti32 : TI := ⟨.struct #[⟨ "Name", 9, 0, false, "", "", 0⟩, ⟨ "Attrs", 29, 1, false, "", "", 16⟩, ⟨ "Rows", 30, 2, false, "", "", 40⟩], 3, 64, .agg [.str ByteArray.empty, .nilS, .nilS], .agg #[.string ByteArray.empty, .slice none 0 0, .slice none 0 0], none, true, false⟩
def ti33 : TI := ⟨.slice 46, 1, 24, .nilS, .slice none 0 0, none, false, false⟩
def ti35 : TI := ⟨.func #[27] #[32, 33, 4] false, 1, 8, .nilFn, .nilFunc, none, false, false⟩
def ti36 : TI := ⟨.func #[] #[4] false, 1, 8, .nilFn, .nilFunc, none, false, false⟩
def ti37 : TI := ⟨.slice 49, 1, 24, .nilS, .slice none 0 0, none, false, false⟩
def ti38 : TI := ⟨.func #[32, 28] #[37] false, 1, 8, .nilFn, .nilFunc, none, false, false⟩
def ti39 : TI := ⟨.int .i64, 1, 8, .int .i64 0, .int .i64 0, some (.int .i64), false, false⟩
def ti41 : TI := ⟨.func #[32, 33, 37] #[4, 39] false, 1, 8, .nilFn, .nilFunc, none, false, false⟩
def ti42 : TI := ⟨.func #[33] #[33] false, 1, 8, .nilFn, .nilFunc, none, false, false⟩
def ti43 : TI := ⟨.int .u32, 1, 4, .int .u32 0, .int .u32 0, some (.int .u32), false, false⟩
def ti44 : TI := ⟨.int .u32, 1, 4, .int .u32 0, .int .u32 0, some (.int .u32), false, false⟩
def ti45 : TI := ⟨.struct #[⟨ "Lhs", 44, 0, false, "", "", 0⟩, ⟨ "Rhs", 44, 1, false, "", "", 4⟩], 2, 8, .agg [.int .u32 0, .int .u32 0], .agg #[.int .u32 0, .int .u32 0], none, true, false⟩
def ti46 : TI := ⟨.struct #[⟨ "Lhs", 44, 0, false, "", "", 0⟩, ⟨ "Rhs", 44, 1, false, "", "", 4⟩], 2, 8, .agg [.int .u32 0, .int .u32 0], .agg #[.int .u32 0, .int .u32 0], none, true, false⟩
def ti47 : TI := ⟨.func #[37] #[37] false, 1, 8, .nilFn, .nilFunc, none, false, false⟩
def ti48 : TI := ⟨.struct #[⟨ "ID", 2, 0, false, "", "", 0⟩, ⟨ "Attr", 3, 1, false, "", "", 8⟩], 2, 16, .agg [.int .i64 0, .int .i64 0], .agg #[.int .i64 0, .int .i64 0], none, true, false⟩
def ti49 : TI := ⟨.struct #[⟨ "ID", 2, 0, false, "", "", 0⟩, ⟨ "Attr", 3, 1, false, "", "", 8⟩], 2, 16, .agg [.int .i64 0, .int .i64 0], .agg #[.int .i64 0, .int .i64 0], none, true, false⟩
def ti50 : TI := ⟨.func #[32, 33, 37] #[4] false, 1, 8, .nilFn, .nilFunc, none, false, false⟩
def ti51 : TI := ⟨.func #[27, 28, 28] #[4] false, 1, 8, .nilFn, .nilFunc, none, false, false⟩
def ti52 : TI := ⟨.array 2 5, 2, 2, .agg [.int .u8 0, .int .u8 0], .agg #[.int .u8 0, .int .u8 0], none, true, false⟩
def ti53 : TI := ⟨.func #[32] #[37] false, 1, 8, .nilFn, .nilFunc, none, false, false⟩
def ti54 : TI := ⟨.func #[27, 52] #[4] false, 1, 8, .nilFn, .nilFunc, none, false, false⟩
def ti56 : TI := ⟨.func #[32, 33, 37] #[37, 39] false, 1, 8, .nilFn, .nilFunc, none, false, false⟩
def ti57 : TI := ⟨.func #[32, 37] #[37] false, 1, 8, .nilFn, .nilFunc, none, false, false⟩
def ti58 : TI := ⟨.func #[27, 28] #[4] false, 1, 8, .nilFn, .nilFunc, none, false, false⟩
def ti60 : TI := ⟨.func #[32, 33, 37] #[32, 39] false, 1, 8, .nilFn, .nilFunc, none, false, false⟩
def ti62 : TI := ⟨.func #[32, 33, 37] #[3, 39] false, 1, 8, .nilFn, .nilFunc, none, false, false⟩
def ti63 : TI := ⟨.func #[32, 32] #[4] false, 1, 8, .nilFn, .nilFunc, none, false, false⟩
def ti64 : TI := ⟨.slice 68, 1, 24, .nilS, .slice none 0 0, none, false, false⟩
def ti65 : TI := ⟨.struct #[⟨ "ID", 2, 0, false, "", "", 0⟩, ⟨ "Values", 64, 1, false, "", "", 8⟩], 2, 32, .agg [.int .i64 0, .nilS], .agg #[.int .i64 0, .slice none 0 0], none, true, false⟩
def ti66 : TI := ⟨.struct #[⟨ "ID", 2, 0, false, "", "", 0⟩, ⟨ "Values", 64, 1, false, "", "", 8⟩], 2, 32, .agg [.int .i64 0, .nilS], .agg #[.int .i64 0, .slice none 0 0], none, true, false⟩
def ti67 : TI := ⟨.struct #[⟨ "Kind", 3, 0, false, "", "", 0⟩, ⟨ "Num", 2, 1, false, "", "", 8⟩, ⟨ "Str", 9, 2, false, "", "", 16⟩], 3, 32, .agg [.int .i64 0, .int .i64 0, .str ByteArray.empty], .agg #[.int .i64 0, .int .i64 0, .string ByteArray.empty], none, true, false⟩
def ti68 : TI := ⟨.struct #[⟨ "Kind", 3, 0, false, "", "", 0⟩, ⟨ "Num", 2, 1, false, "", "", 8⟩, ⟨ "Str", 9, 2, false, "", "", 16⟩], 3, 32, .agg [.int .i64 0, .int .i64 0, .str ByteArray.empty], .agg #[.int .i64 0, .int .i64 0, .string ByteArray.empty], none, true, false⟩
def ti69 : TI := ⟨.func #[37, 49] #[4] false, 1, 8, .nilFn, .nilFunc, none, false, false⟩
def ti70 : TI := ⟨.func #[32, 33] #[4] false, 1, 8, .nilFn, .nilFunc, none, false, false⟩
def ti71 : TI := ⟨.slice 37, 1, 24, .nilS, .slice none 0 0, none, false, false⟩
def ti72 : TI := ⟨.slice 90, 1, 24, .nilS, .slice none 0 0, none, false, false⟩
def ti73 : TI := ⟨.struct #[⟨ "Cells", 37, 0, false, "", "", 0⟩, ⟨ "Table", 32, 1, false, "", "", 24⟩, ⟨ "Cores", 71, 4, false, "", "", 88⟩, ⟨ "Proof", 72, 5, false, "", "", 112⟩], 6, 136, .agg [.nilS, .str ByteArray.empty, .nilS, .nilS, .nilS, .nilS], .agg #[.slice none 0 0, .string ByteArray.empty, .slice none 0 0, .slice none 0 0, .slice none 0 0, .slice none 0 0], none, true, false⟩
def ti74 : TI := ⟨.struct #[⟨ "Cells", 37, 0, false, "", "", 0⟩, ⟨ "Table", 32, 1, false, "", "", 24⟩, ⟨ "Cores", 71, 4, false, "", "", 88⟩, ⟨ "Proof", 72, 5, false, "", "", 112⟩], 6, 136, .agg [.nilS, .str ByteArray.empty, .nilS, .nilS, .nilS, .nilS], .agg #[.slice none 0 0, .string ByteArray.empty, .slice none 0 0, .slice none 0 0, .slice none 0 0, .slice none 0 0], none, true, false⟩
def ti76 : TI := ⟨.func #[32, 33, 3] #[74, 39] false, 1, 8, .nilFn, .nilFunc, none, false, false⟩
def ti77 : TI := ⟨.func #[32, 33, 74] #[4] false, 1, 8, .nilFn, .nilFunc, none, false, false⟩
def ti78 : TI := ⟨.func #[32, 33] #[3] false, 1, 8, .nilFn, .nilFunc, none, false, false⟩
def ti79 : TI := ⟨.func #[27] #[4] false, 1, 8, .nilFn, .nilFunc, none, false, false⟩
def ti80 : TI := ⟨.int .i8, 1, 1, .int .i8 0, .int .i8 0, some (.int .i8), false, false⟩
def ti81 : TI := ⟨.struct #[⟨ "Kind", 5, 0, false, "", "", 0⟩, ⟨ "At", 5, 1, false, "", "", 1⟩, ⟨ "By", 80, 2, false, "", "", 2⟩], 3, 3, .agg [.int .u8 0, .int .u8 0, .int .i8 0], .agg #[.int .u8 0, .int .u8 0, .int .i8 0], none, true, false⟩
def ti82 : TI := ⟨.struct #[⟨ "Kind", 5, 0, false, "", "", 0⟩, ⟨ "At", 5, 1, false, "", "", 1⟩, ⟨ "By", 80, 2, false, "", "", 2⟩], 3, 3, .agg [.int .u8 0, .int .u8 0, .int .i8 0], .agg #[.int .u8 0, .int .u8 0, .int .i8 0], none, true, false⟩
def ti83 : TI := ⟨.array 2 82, 6, 6, .agg [.int .u8 0, .int .u8 0, .int .i8 0, .int .u8 0, .int .u8 0, .int .i8 0], .agg #[.int .u8 0, .int .u8 0, .int .i8 0, .int .u8 0, .int .u8 0, .int .i8 0], none, true, false⟩
def ti84 : TI := ⟨.func #[32, 74, 82] #[74] false, 1, 8, .nilFn, .nilFunc, none, false, false⟩
def ti85 : TI := ⟨.func #[27, 83] #[4] false, 1, 8, .nilFn, .nilFunc, none, false, false⟩
def ti86 : TI := ⟨.func #[32, 33, 37] #[39] false, 1, 8, .nilFn, .nilFunc, none, false, false⟩
def ti87 : TI := ⟨.func #[32, 33] #[39] false, 1, 8, .nilFn, .nilFunc, none, false, false⟩
def ti88 : TI := ⟨.slice 151, 1, 24, .nilS, .slice none 0 0, none, false, false⟩
def ti89 : TI := ⟨.struct #[⟨ "Vertex", 3, 0, false, "", "", 0⟩, ⟨ "Shares", 88, 1, false, "", "", 8⟩], 2, 32, .agg [.int .i64 0, .nilS], .agg #[.int .i64 0, .slice none 0 0], none, true, false⟩
def ti90 : TI := ⟨.struct #[⟨ "Vertex", 3, 0, false, "", "", 0⟩, ⟨ "Shares", 88, 1, false, "", "", 8⟩], 2, 32, .agg [.int .i64 0, .nilS], .agg #[.int .i64 0, .slice none 0 0], none, true, false⟩
def ti91 : TI := ⟨.func #[24, 3] #[32] false, 1, 8, .nilFn, .nilFunc, none, false, false⟩
def ti92 : TI := ⟨.func #[3, 25] #[33] false, 1, 8, .nilFn, .nilFunc, none, false, false⟩
def ti93 : TI := ⟨.func #[] #[32] false, 1, 8, .nilFn, .nilFunc, none, false, false⟩
def ti94 : TI := ⟨.func #[5] #[68] false, 1, 8, .nilFn, .nilFunc, none, false, false⟩
def ti95 : TI := ⟨.func #[37, 37] #[4] false, 1, 8, .nilFn, .nilFunc, none, false, false⟩
def ti96 : TI := ⟨.slice 115, 1, 24, .nilS, .slice none 0 0, none, false, false⟩
def ti98 : TI := ⟨.func #[32, 33, 37] #[96, 4] false, 1, 8, .nilFn, .nilFunc, none, false, false⟩
def ti99 : TI := ⟨.func #[32, 49] #[68] false, 1, 8, .nilFn, .nilFunc, none, false, false⟩
def ti100 : TI := ⟨.func #[32, 49, 68] #[32, 39] false, 1, 8, .nilFn, .nilFunc, none, false, false⟩
def ti101 : TI := ⟨.func #[32, 33, 37] #[37] false, 1, 8, .nilFn, .nilFunc, none, false, false⟩
def ti102 : TI := ⟨.pointer 112, 1, 8, .nilP, .pointer none, none, false, false⟩
def ti103 : TI := ⟨.func #[32, 37] #[102] false, 1, 8, .nilFn, .nilFunc, none, false, false⟩
def ti104 : TI := ⟨.func #[3, 33] #[4] false, 1, 8, .nilFn, .nilFunc, none, false, false⟩
def ti105 : TI := ⟨.map 2 4, 1, 8, .nilM, .map none, none, false, false⟩
def ti106 : TI := ⟨.func #[29] #[29] false, 1, 8, .nilFn, .nilFunc, none, false, false⟩
def ti107 : TI := ⟨.map 3 68, 1, 8, .nilM, .map none, none, false, false⟩
def ti108 : TI := ⟨.func #[3] #[3] false, 1, 8, .nilFn, .nilFunc, none, false, false⟩
def ti109 : TI := ⟨.slice 3, 1, 24, .nilS, .slice none 0 0, none, false, false⟩
def ti110 : TI := ⟨.slice 113, 1, 24, .nilS, .slice none 0 0, none, false, false⟩
def ti111 : TI := ⟨.struct #[⟨ "n", 3, 0, false, "", "dross/update", 0⟩, ⟨ "parent", 109, 1, false, "", "dross/update", 8⟩, ⟨ "known", 110, 2, false, "", "dross/update", 32⟩], 3, 56, .agg [.int .i64 0, .nilS, .nilS], .agg #[.int .i64 0, .slice none 0 0, .slice none 0 0], none, true, false⟩
def ti112 : TI := ⟨.struct #[⟨ "n", 3, 0, false, "", "dross/update", 0⟩, ⟨ "parent", 109, 1, false, "", "dross/update", 8⟩, ⟨ "known", 110, 2, false, "", "dross/update", 32⟩], 3, 56, .agg [.int .i64 0, .nilS, .nilS], .agg #[.int .i64 0, .slice none 0 0, .slice none 0 0], none, true, false⟩
def ti113 : TI := ⟨.pointer 68, 1, 8, .nilP, .pointer none, none, false, false⟩
def ti115 : TI := ⟨.slice 117, 1, 24, .nilS, .slice none 0 0, none, false, false⟩
def ti116 : TI := ⟨.struct #[⟨ "V", 68, 0, false, "", "", 0⟩, ⟨ "Symbol", 3, 3, false, "", "", 32⟩], 4, 40, .agg [.int .i64 0, .int .i64 0, .str ByteArray.empty, .int .i64 0], .agg #[.int .i64 0, .int .i64 0, .string ByteArray.empty, .int .i64 0], none, true, false⟩
def ti117 : TI := ⟨.struct #[⟨ "V", 68, 0, false, "", "", 0⟩, ⟨ "Symbol", 3, 3, false, "", "", 32⟩], 4, 40, .agg [.int .i64 0, .int .i64 0, .str ByteArray.empty, .int .i64 0], .agg #[.int .i64 0, .int .i64 0, .string ByteArray.empty, .int .i64 0], none, true, false⟩
def ti118 : TI := ⟨.func #[32, 2] #[4] false, 1, 8, .nilFn, .nilFunc, none, false, false⟩
def ti119 : TI := ⟨.func #[96, 117, 117] #[] false, 1, 8, .nilFn, .nilFunc, none, false, false⟩
def ti120 : TI := ⟨.func #[32, 30] #[32] false, 1, 8, .nilFn, .nilFunc, none, false, false⟩
def ti121 : TI := ⟨.func #[32, 32] #[37] false, 1, 8, .nilFn, .nilFunc, none, false, false⟩
def ti122 : TI := ⟨.func #[29, 29] #[4] false, 1, 8, .nilFn, .nilFunc, none, false, false⟩
def ti123 : TI := ⟨.func #[66, 66] #[4] false, 1, 8, .nilFn, .nilFunc, none, false, false⟩
def ti124 : TI := ⟨.func #[37, 49] #[3] false, 1, 8, .nilFn, .nilFunc, none, false, false⟩
def ti125 : TI := ⟨.func #[66, 66, 44] #[4] false, 1, 8, .nilFn, .nilFunc, none, false, false⟩
def ti126 : TI := ⟨.slice 2, 1, 24, .nilS, .slice none 0 0, none, false, false⟩
def ti127 : TI := ⟨.slice 109, 1, 24, .nilS, .slice none 0 0, none, false, false⟩
def ti128 : TI := ⟨.struct #[⟨ "Weights", 126, 0, false, "", "", 0⟩, ⟨ "Edges", 127, 1, false, "", "", 24⟩], 2, 48, .agg [.nilS, .nilS], .agg #[.slice none 0 0, .slice none 0 0], none, true, false⟩
def ti129 : TI := ⟨.struct #[⟨ "Weights", 126, 0, false, "", "", 0⟩, ⟨ "Edges", 127, 1, false, "", "", 24⟩], 2, 48, .agg [.nilS, .nilS], .agg #[.slice none 0 0, .slice none 0 0], none, true, false⟩
def ti131 : TI := ⟨.func #[71] #[129, 37] false, 1, 8, .nilFn, .nilFunc, none, false, false⟩
def ti133 : TI := ⟨.func #[129, 3] #[109, 2, 39] false, 1, 8, .nilFn, .nilFunc, none, false, false⟩
def ti135 : TI := ⟨.func #[129, 2, 3] #[72, 39] false, 1, 8, .nilFn, .nilFunc, none, false, false⟩
def ti136 : TI := ⟨.func #[71, 137] #[] false, 1, 8, .nilFn, .nilFunc, none, false, false⟩
def ti137 : TI := ⟨.func #[37, 37] #[3] false, 1, 8, .nilFn, .nilFunc, none, false, false⟩
def ti138 : TI := ⟨.func #[32, 32, 37] #[4] false, 1, 8, .nilFn, .nilFunc, none, false, false⟩
def ti139 : TI := ⟨.func #[129, 2, 72] #[4] false, 1, 8, .nilFn, .nilFunc, none, false, false⟩
def ti140 : TI := ⟨.func #[32] #[39] false, 1, 8, .nilFn, .nilFunc, none, false, false⟩
def ti142 : TI := ⟨.func #[37, 49, 143] #[3, 4] false, 1, 8, .nilFn, .nilFunc, none, false, false⟩
def ti143 : TI := ⟨.func #[49, 49] #[3] false, 1, 8, .nilFn, .nilFunc, none, false, false⟩
def ti144 : TI := ⟨.func #[37, 3, 3] #[37] false, 1, 8, .nilFn, .nilFunc, none, false, false⟩
def ti145 : TI := ⟨.func #[71, 3, 3] #[71] false, 1, 8, .nilFn, .nilFunc, none, false, false⟩
def ti146 : TI := ⟨.func #[71] #[71] false, 1, 8, .nilFn, .nilFunc, none, false, false⟩
def ti147 : TI := ⟨.func #[72] #[72] false, 1, 8, .nilFn, .nilFunc, none, false, false⟩
def ti148 : TI := ⟨.pointer 90, 1, 8, .nilP, .pointer none, none, false, false⟩
def ti149 : TI := ⟨.func #[88] #[88] false, 1, 8, .nilFn, .nilFunc, none, false, false⟩
def ti150 : TI := ⟨.struct #[⟨ "Edge", 3, 0, false, "", "", 0⟩, ⟨ "Amount", 2, 1, false, "", "", 8⟩], 2, 16, .agg [.int .i64 0, .int .i64 0], .agg #[.int .i64 0, .int .i64 0], none, true, false⟩
def ti151 : TI := ⟨.struct #[⟨ "Edge", 3, 0, false, "", "", 0⟩, ⟨ "Amount", 2, 1, false, "", "", 8⟩], 2, 16, .agg [.int .i64 0, .int .i64 0], .agg #[.int .i64 0, .int .i64 0], none, true, false⟩
def ti152 : TI := ⟨.func #[37, 3] #[37] false, 1, 8, .nilFn, .nilFunc, none, false, false⟩
def ti153 : TI := ⟨.func #[49, 49] #[4] false, 1, 8, .nilFn, .nilFunc, none, false, false⟩
def ti154 : TI := ⟨.func #[3, 33] #[39] false, 1, 8, .nilFn, .nilFunc, none, false, false⟩
def ti155 : TI := ⟨.slice 5, 1, 24, .nilS, .slice none 0 0, none, false, false⟩
def ti156 : TI := ⟨.func #[3] #[44] false, 1, 8, .nilFn, .nilFunc, none, false, false⟩
def ti157 : TI := ⟨.struct #[⟨ "L", 5, 0, false, "", "", 0⟩, ⟨ "R", 5, 1, false, "", "", 1⟩], 2, 2, .agg [.int .u8 0, .int .u8 0], .agg #[.int .u8 0, .int .u8 0], none, true, false⟩
def ti158 : TI := ⟨.struct #[⟨ "L", 5, 0, false, "", "", 0⟩, ⟨ "R", 5, 1, false, "", "", 1⟩], 2, 2, .agg [.int .u8 0, .int .u8 0], .agg #[.int .u8 0, .int .u8 0], none, true, false⟩
def ti159 : TI := ⟨.func #[155] #[64] false, 1, 8, .nilFn, .nilFunc, none, false, false⟩
def ti160 : TI := ⟨.func #[37] #[4] false, 1, 8, .nilFn, .nilFunc, none, false, false⟩
def ti161 : TI := ⟨.func #[32, 2] #[3, 4] false, 1, 8, .nilFn, .nilFunc, none, false, false⟩
def ti162 : TI := ⟨.func #[96, 33] #[3] false, 1, 8, .nilFn, .nilFunc, none, false, false⟩
def ti163 : TI := ⟨.func #[68] #[4] false, 1, 8, .nilFn, .nilFunc, none, false, false⟩
def ti164 : TI := ⟨.func #[3, 3, 44] #[4] false, 1, 8, .nilFn, .nilFunc, none, false, false⟩
def ti165 : TI := ⟨.func #[3, 3] #[4] false, 1, 8, .nilFn, .nilFunc, none, false, false⟩
def ti166 : TI := ⟨.func #[66] #[66] false, 1, 8, .nilFn, .nilFunc, none, false, false⟩
def ti167 : TI := ⟨.func #[68, 68] #[3] false, 1, 8, .nilFn, .nilFunc, none, false, false⟩
def ti168 : TI := ⟨.func #[64, 64] #[4] false, 1, 8, .nilFn, .nilFunc, none, false, false⟩
def ti169 : TI := ⟨.func #[66, 44] #[64] false, 1, 8, .nilFn, .nilFunc, none, false, false⟩
def ti170 : TI := ⟨.func #[71] #[37] true, 1, 8, .nilFn, .nilFunc, none, false, false⟩
def ti171 : TI := ⟨.func #[37, 143] #[] false, 1, 8, .nilFn, .nilFunc, none, false, false⟩
def ti173 : TI := ⟨.func #[129] #[109, 39] false, 1, 8, .nilFn, .nilFunc, none, false, false⟩
def ti175 : TI := ⟨.func #[129, 109] #[2, 39] false, 1, 8, .nilFn, .nilFunc, none, false, false⟩
def ti176 : TI := ⟨.pointer 178, 1, 8, .nilP, .pointer none, none, false, false⟩
def ti177 : TI := ⟨.struct #[⟨ "l", 109, 0, false, "", "dross/hitset", 0⟩, ⟨ "weight", 2, 1, false, "", "dross/hitset", 24⟩], 2, 32, .agg [.nilS, .int .i64 0], .agg #[.slice none 0 0, .int .i64 0], none, true, false⟩
def ti178 : TI := ⟨.struct #[⟨ "l", 109, 0, false, "", "dross/hitset", 0⟩, ⟨ "weight", 2, 1, false, "", "dross/hitset", 24⟩], 2, 32, .agg [.nilS, .int .i64 0], .agg #[.slice none 0 0, .int .i64 0], none, true, false⟩
def ti179 : TI := ⟨.pointer 216, 1, 8, .nilP, .pointer none, none, false, false⟩
def ti180 : TI := ⟨.func #[129, 3] #[179] false, 1, 8, .nilFn, .nilFunc, none, false, false⟩
def ti181 : TI := ⟨.func #[176, 2] #[4] false, 1, 8, .nilFn, .nilFunc, none, false, false⟩
def ti182 : TI := ⟨.func #[129] #[39] false, 1, 8, .nilFn, .nilFunc, none, false, false⟩
def ti183 : TI := ⟨.func #[2] #[72, 39] false, 1, 8, .nilFn, .nilFunc, none, false, false⟩
def ti184 : TI := ⟨.func #[71, 3, 3, 3, 137] #[] false, 1, 8, .nilFn, .nilFunc, none, false, false⟩
def ti185 : TI := ⟨.func #[186] #[3] false, 1, 8, .nilFn, .nilFunc, none, false, false⟩
def ti186 : TI := ⟨.int .u64, 1, 8, .int .u64 0, .int .u64 0, some (.int .u64), false, false⟩
def ti187 : TI := ⟨.func #[37, 37, 143] #[3] false, 1, 8, .nilFn, .nilFunc, none, false, false⟩
def ti188 : TI := ⟨.func #[2] #[4] false, 1, 8, .nilFn, .nilFunc, none, false, false⟩
def ti189 : TI := ⟨.func #[129, 191, 72] #[3] false, 1, 8, .nilFn, .nilFunc, none, false, false⟩
def ti190 : TI := ⟨.struct #[⟨ "Chosen", 109, 0, false, "", "", 0⟩, ⟨ "Excluded", 109, 1, false, "", "", 24⟩, ⟨ "Bound", 2, 2, false, "", "", 48⟩], 3, 56, .agg [.nilS, .nilS, .int .i64 0], .agg #[.slice none 0 0, .slice none 0 0, .int .i64 0], none, true, false⟩
def ti191 : TI := ⟨.struct #[⟨ "Chosen", 109, 0, false, "", "", 0⟩, ⟨ "Excluded", 109, 1, false, "", "", 24⟩, ⟨ "Bound", 2, 2, false, "", "", 48⟩], 3, 56, .agg [.nilS, .nilS, .int .i64 0], .agg #[.slice none 0 0, .slice none 0 0, .int .i64 0], none, true, false⟩
def ti192 : TI := ⟨.func #[9] #[4] false, 1, 8, .nilFn, .nilFunc, none, false, false⟩
def ti193 : TI := ⟨.func #[29, 9] #[4] false, 1, 8, .nilFn, .nilFunc, none, false, false⟩
def ti194 : TI := ⟨.func #[64] #[4] false, 1, 8, .nilFn, .nilFunc, none, false, false⟩
def ti195 : TI := ⟨.func #[30, 30, 123] #[4] false, 1, 8, .nilFn, .nilFunc, none, false, false⟩
def ti196 : TI := ⟨.func #[109] #[3] true, 1, 8, .nilFn, .nilFunc, none, false, false⟩
def ti197 : TI := ⟨.func #[2, 2] #[3] false, 1, 8, .nilFn, .nilFunc, none, false, false⟩
def ti198 : TI := ⟨.func #[3, 3] #[3] false, 1, 8, .nilFn, .nilFunc, none, false, false⟩
def ti200 : TI := ⟨.func #[72, 2] #[72, 4] false, 1, 8, .nilFn, .nilFunc, none, false, false⟩
def ti201 : TI := ⟨.func #[29] #[4] false, 1, 8, .nilFn, .nilFunc, none, false, false⟩
def ti202 : TI := ⟨.func #[44, 44] #[4] false, 1, 8, .nilFn, .nilFunc, none, false, false⟩
def ti203 : TI := ⟨.func #[30, 204] #[3] false, 1, 8, .nilFn, .nilFunc, none, false, false⟩
def ti204 : TI := ⟨.func #[66] #[4] false, 1, 8, .nilFn, .nilFunc, none, false, false⟩
def ti205 : TI := ⟨.func #[115, 115, 44] #[4] false, 1, 8, .nilFn, .nilFunc, none, false, false⟩
def ti206 : TI := ⟨.func #[9, 9] #[3] false, 1, 8, .nilFn, .nilFunc, none, false, false⟩
def ti207 : TI := ⟨.func #[64, 64] #[3] false, 1, 8, .nilFn, .nilFunc, none, false, false⟩
def ti208 : TI := ⟨.func #[44, 3] #[4] false, 1, 8, .nilFn, .nilFunc, none, false, false⟩
def ti209 : TI := ⟨.func #[37, 3, 3, 3, 143] #[] false, 1, 8, .nilFn, .nilFunc, none, false, false⟩
def ti210 : TI := ⟨.func #[109, 198] #[] false, 1, 8, .nilFn, .nilFunc, none, false, false⟩
def ti211 : TI := ⟨.func #[109, 212] #[4] false, 1, 8, .nilFn, .nilFunc, none, false, false⟩
def ti212 : TI := ⟨.func #[3] #[4] false, 1, 8, .nilFn, .nilFunc, none, false, false⟩
def ti213 : TI := ⟨.func #[109] #[] false, 1, 8, .nilFn, .nilFunc, none, false, false⟩
def ti214 : TI := ⟨.func #[109, 3] #[4] false, 1, 8, .nilFn, .nilFunc, none, false, false⟩
def ti215 : TI := ⟨.struct #[⟨ "in", 129, 0, false, "", "dross/hitset", 0⟩, ⟨ "marks", 109, 2, false, "", "dross/hitset", 48⟩, ⟨ "left", 3, 3, false, "", "dross/hitset", 72⟩], 4, 80, .agg [.nilS, .nilS, .nilS, .int .i64 0], .agg #[.slice none 0 0, .slice none 0 0, .slice none 0 0, .int .i64 0], none, true, false⟩
def ti216 : TI := ⟨.struct #[⟨ "in", 129, 0, false, "", "dross/hitset", 0⟩, ⟨ "marks", 109, 2, false, "", "dross/hitset", 48⟩, ⟨ "left", 3, 3, false, "", "dross/hitset", 72⟩], 4, 80, .agg [.nilS, .nilS, .nilS, .int .i64 0], .agg #[.slice none 0 0, .slice none 0 0, .slice none 0 0, .int .i64 0], none, true, false⟩
def ti218 : TI := ⟨.func #[] #[88, 2] false, 1, 8, .nilFn, .nilFunc, none, false, false⟩
def ti219 : TI := ⟨.func #[] #[3] false, 1, 8, .nilFn, .nilFunc, none, false, false⟩
def ti220 : TI := ⟨.func #[249] #[72] true, 1, 8, .nilFn, .nilFunc, none, false, false⟩
def ti221 : TI := ⟨.func #[71, 3, 3, 137] #[] false, 1, 8, .nilFn, .nilFunc, none, false, false⟩
def ti222 : TI := ⟨.int .i64, 1, 8, .int .i64 0, .int .i64 0, some (.int .i64), false, false⟩
def ti224 : TI := ⟨.func #[71, 3, 3, 137] #[3, 222] false, 1, 8, .nilFn, .nilFunc, none, false, false⟩
def ti225 : TI := ⟨.func #[71, 3, 3, 137] #[4] false, 1, 8, .nilFn, .nilFunc, none, false, false⟩
def ti226 : TI := ⟨.func #[71, 3, 3, 3, 137] #[3] false, 1, 8, .nilFn, .nilFunc, none, false, false⟩
def ti227 : TI := ⟨.func #[71, 3, 3, 3, 137] #[3, 4] false, 1, 8, .nilFn, .nilFunc, none, false, false⟩
def ti228 : TI := ⟨.func #[43] #[3] false, 1, 8, .nilFn, .nilFunc, none, false, false⟩
def ti229 : TI := ⟨.func #[230] #[3] false, 1, 8, .nilFn, .nilFunc, none, false, false⟩
def ti230 : TI := ⟨.int .u64, 1, 8, .int .u64 0, .int .u64 0, some (.int .u64), false, false⟩
def ti231 : TI := ⟨.func #[129, 191] #[4] false, 1, 8, .nilFn, .nilFunc, none, false, false⟩
def ti232 : TI := ⟨.func #[129, 191, 88] #[4] false, 1, 8, .nilFn, .nilFunc, none, false, false⟩
def ti233 : TI := ⟨.func #[29, 9] #[3] false, 1, 8, .nilFn, .nilFunc, none, false, false⟩
def ti234 : TI := ⟨.func #[64, 163] #[4] false, 1, 8, .nilFn, .nilFunc, none, false, false⟩
def ti235 : TI := ⟨.func #[88, 2] #[4] false, 1, 8, .nilFn, .nilFunc, none, false, false⟩
def ti236 : TI := ⟨.func #[5] #[4] false, 1, 8, .nilFn, .nilFunc, none, false, false⟩
def ti237 : TI := ⟨.func #[37, 3, 3, 143] #[] false, 1, 8, .nilFn, .nilFunc, none, false, false⟩
def ti238 : TI := ⟨.func #[37, 3, 3, 143] #[3, 222] false, 1, 8, .nilFn, .nilFunc, none, false, false⟩
def ti239 : TI := ⟨.func #[37, 3, 3, 143] #[4] false, 1, 8, .nilFn, .nilFunc, none, false, false⟩
def ti240 : TI := ⟨.func #[37, 3, 3, 3, 143] #[3] false, 1, 8, .nilFn, .nilFunc, none, false, false⟩
def ti241 : TI := ⟨.func #[37, 3, 3, 3, 143] #[3, 4] false, 1, 8, .nilFn, .nilFunc, none, false, false⟩
def ti242 : TI := ⟨.func #[109, 3, 198] #[] false, 1, 8, .nilFn, .nilFunc, none, false, false⟩
def ti243 : TI := ⟨.func #[109, 212] #[3] false, 1, 8, .nilFn, .nilFunc, none, false, false⟩
def ti244 : TI := ⟨.func #[109, 3, 3, 3] #[] false, 1, 8, .nilFn, .nilFunc, none, false, false⟩
def ti245 : TI := ⟨.func #[109, 3] #[3] false, 1, 8, .nilFn, .nilFunc, none, false, false⟩
def ti246 : TI := ⟨.func #[127, 247] #[4] false, 1, 8, .nilFn, .nilFunc, none, false, false⟩
def ti247 : TI := ⟨.func #[109] #[4] false, 1, 8, .nilFn, .nilFunc, none, false, false⟩
def ti248 : TI := ⟨.func #[126] #[126] false, 1, 8, .nilFn, .nilFunc, none, false, false⟩
def ti249 : TI := ⟨.slice 72, 1, 24, .nilS, .slice none 0 0, none, false, false⟩
def ti250 : TI := ⟨.func #[72, 3] #[72] false, 1, 8, .nilFn, .nilFunc, none, false, false⟩
def ti251 : TI := ⟨.int .u64, 1, 8, .int .u64 0, .int .u64 0, some (.int .u64), false, false⟩
def ti252 : TI := ⟨.func #[3] #[186] false, 1, 8, .nilFn, .nilFunc, none, false, false⟩
def ti253 : TI := ⟨.func #[] #[230] false, 1, 8, .nilFn, .nilFunc, none, false, false⟩
def ti254 : TI := ⟨.func #[71, 3, 255, 137] #[3] false, 1, 8, .nilFn, .nilFunc, none, false, false⟩
def ti255 : TI := ⟨.pointer 3, 1, 8, .nilP, .pointer none, none, false, false⟩
def ti256 : TI := ⟨.func #[71, 3, 3, 3, 255, 137] #[3] false, 1, 8, .nilFn, .nilFunc, none, false, false⟩
def ti257 : TI := ⟨.func #[109, 109] #[4] false, 1, 8, .nilFn, .nilFunc, none, false, false⟩
def ti258 : TI := ⟨.func #[64, 163] #[3] false, 1, 8, .nilFn, .nilFunc, none, false, false⟩
def ti259 : TI := ⟨.func #[37, 3, 255, 143] #[3] false, 1, 8, .nilFn, .nilFunc, none, false, false⟩
def ti260 : TI := ⟨.func #[37, 3, 3, 3, 255, 143] #[3] false, 1, 8, .nilFn, .nilFunc, none, false, false⟩
def ti261 : TI := ⟨.func #[109, 3, 3, 198] #[] false, 1, 8, .nilFn, .nilFunc, none, false, false⟩
def ti262 : TI := ⟨.func #[109, 3, 3, 3, 198] #[] false, 1, 8, .nilFn, .nilFunc, none, false, false⟩
def ti263 : TI := ⟨.func #[109, 3, 3] #[] false, 1, 8, .nilFn, .nilFunc, none, false, false⟩
def ti264 : TI := ⟨.func #[109, 3, 3] #[3, 222] false, 1, 8, .nilFn, .nilFunc, none, false, false⟩
def ti265 : TI := ⟨.func #[109, 3, 3] #[4] false, 1, 8, .nilFn, .nilFunc, none, false, false⟩
def ti266 : TI := ⟨.func #[109, 3, 3, 3] #[3] false, 1, 8, .nilFn, .nilFunc, none, false, false⟩
def ti267 : TI := ⟨.func #[109, 3, 3, 3] #[3, 4] false, 1, 8, .nilFn, .nilFunc, none, false, false⟩
def ti268 : TI := ⟨.func #[127, 247] #[3] false, 1, 8, .nilFn, .nilFunc, none, false, false⟩
def ti269 : TI := ⟨.pointer 251, 1, 8, .nilP, .pointer none, none, false, false⟩
def ti271 : TI := ⟨.func #[71, 3, 3, 255, 137] #[3, 3] false, 1, 8, .nilFn, .nilFunc, none, false, false⟩
def ti272 : TI := ⟨.func #[37, 3, 3, 255, 143] #[3, 3] false, 1, 8, .nilFn, .nilFunc, none, false, false⟩
def ti273 : TI := ⟨.func #[109, 3, 255] #[3] false, 1, 8, .nilFn, .nilFunc, none, false, false⟩
def ti274 : TI := ⟨.func #[109, 3, 3, 3, 255] #[3] false, 1, 8, .nilFn, .nilFunc, none, false, false⟩
def ti275 : TI := ⟨.func #[109, 3, 3, 255] #[3, 3] false, 1, 8, .nilFn, .nilFunc, none, false, false⟩
def ti276 : TI := ⟨.func #[] #[9] false, 1, 8, .nilFn, .nilFunc, none, false, false⟩
def ti277 : TI := ⟨.struct #[⟨ "_interface", 17, 0, false, "", "runtime", 0⟩, ⟨ "concrete", 17, 1, false, "", "runtime", 8⟩, ⟨ "asserted", 17, 2, false, "", "runtime", 16⟩, ⟨ "missingMethod", 9, 3, false, "", "runtime", 24⟩], 4, 40, .agg [.nilP, .nilP, .nilP, .str ByteArray.empty], .agg #[.pointer none, .pointer none, .pointer none, .string ByteArray.empty], none, false, false⟩
def ti278 : TI := ⟨.struct #[⟨ "_interface", 17, 0, false, "", "runtime", 0⟩, ⟨ "concrete", 17, 1, false, "", "runtime", 8⟩, ⟨ "asserted", 17, 2, false, "", "runtime", 16⟩, ⟨ "missingMethod", 9, 3, false, "", "runtime", 24⟩], 4, 40, .agg [.nilP, .nilP, .nilP, .str ByteArray.empty], .agg #[.pointer none, .pointer none, .pointer none, .string ByteArray.empty], none, false, false⟩
def ti279 : TI := ⟨.array 0 16, 0, 0, .agg [], .agg #[], none, true, false⟩
def ti280 : TI := ⟨.struct #[⟨ "_", 279, 0, false, "", "runtime", 0⟩], 0, 0, .agg [], .agg #[], none, false, false⟩
def ti281 : TI := ⟨.struct #[⟨ "_", 279, 0, false, "", "runtime", 0⟩], 0, 0, .agg [], .agg #[], none, false, false⟩
def ti282 : TI := ⟨.int .u8, 1, 1, .int .u8 0, .int .u8 0, some (.int .u8), false, false⟩
def ti283 : TI := ⟨.int .u8, 1, 1, .int .u8 0, .int .u8 0, some (.int .u8), false, false⟩
def ti284 : TI := ⟨.func #[290, 290] #[4] false, 1, 8, .nilFn, .nilFunc, none, false, false⟩
def ti285 : TI := ⟨.pointer 5, 1, 8, .nilP, .pointer none, none, false, false⟩
def ti286 : TI := ⟨.int .i32, 1, 4, .int .i32 0, .int .i32 0, some (.int .i32), false, false⟩
def ti287 : TI := ⟨.int .i32, 1, 4, .int .i32 0, .int .i32 0, some (.int .i32), false, false⟩
def ti288 : TI := ⟨.struct #[⟨ "Size_", 12, 0, false, "", "", 0⟩, ⟨ "PtrBytes", 12, 1, false, "", "", 8⟩, ⟨ "Hash", 43, 2, false, "", "", 16⟩, ⟨ "TFlag", 282, 3, false, "", "", 20⟩, ⟨ "Align_", 5, 4, false, "", "", 21⟩, ⟨ "FieldAlign_", 5, 5, false, "", "", 22⟩, ⟨ "Kind_", 283, 6, false, "", "", 23⟩, ⟨ "Equal", 284, 7, false, "", "", 24⟩, ⟨ "GCData", 285, 8, false, "", "", 32⟩, ⟨ "Str", 286, 9, false, "", "", 40⟩, ⟨ "PtrToThis", 287, 10, false, "", "", 44⟩], 11, 48, .agg [.int .u64 0, .int .u64 0, .int .u32 0, .int .u8 0, .int .u8 0, .int .u8 0, .int .u8 0, .nilFn, .nilP, .int .i32 0, .int .i32 0], .agg #[.int .u64 0, .int .u64 0, .int .u32 0, .int .u8 0, .int .u8 0, .int .u8 0, .int .u8 0, .nilFunc, .pointer none, .int .i32 0, .int .i32 0], none, false, false⟩
def ti289 : TI := ⟨.struct #[⟨ "Size_", 12, 0, false, "", "", 0⟩, ⟨ "PtrBytes", 12, 1, false, "", "", 8⟩, ⟨ "Hash", 43, 2, false, "", "", 16⟩, ⟨ "TFlag", 282, 3, false, "", "", 20⟩, ⟨ "Align_", 5, 4, false, "", "", 21⟩, ⟨ "FieldAlign_", 5, 5, false, "", "", 22⟩, ⟨ "Kind_", 283, 6, false, "", "", 23⟩, ⟨ "Equal", 284, 7, false, "", "", 24⟩, ⟨ "GCData", 285, 8, false, "", "", 32⟩, ⟨ "Str", 286, 9, false, "", "", 40⟩, ⟨ "PtrToThis", 287, 10, false, "", "", 44⟩], 11, 48, .agg [.int .u64 0, .int .u64 0, .int .u32 0, .int .u8 0, .int .u8 0, .int .u8 0, .int .u8 0, .nilFn, .nilP, .int .i32 0, .int .i32 0], .agg #[.int .u64 0, .int .u64 0, .int .u32 0, .int .u8 0, .int .u8 0, .int .u8 0, .int .u8 0, .nilFunc, .pointer none, .int .i32 0, .int .i32 0], none, false, false⟩
def tys : List (Option TI) := [none, some ti1, some ti2, some ti3, some ti4, some ti5, some ti6, some ti7, some ti8, some ti9, some ti10, some ti11, some ti12, some ti13, some ti14, some ti15, some ti16, some ti17, some ti18, some ti19, none, some ti21, some ti22, some ti23, some ti24, some ti25, some ti26, some ti27, some ti28, some ti29, some ti30, some ti31, some ti32, some ti33, none, some ti35, some ti36, some ti37, some ti38, some ti39, none, some ti41, some ti42, some ti43, some ti44, some ti45, some ti46, some ti47, some ti48, some ti49, some ti50, some ti51, some ti52, some ti53, some ti54, none, some ti56, some ti57, some ti58, none, some ti60, none, some ti62, some ti63, some ti64, some ti65, some ti66, some ti67, some ti68, some ti69, some ti70, some ti71, some ti72, some ti73, some ti74, none, some ti76, some ti77, some ti78, some ti79, some ti80, some ti81, some ti82, some ti83, some ti84, some ti85, some ti86, some ti87, some ti88, some ti89, some ti90, some ti91, some ti92, some ti93, some ti94, some ti95, some ti96, none, some ti98, some ti99, some ti100, some ti101, some ti102, some ti103, some ti104, some ti105, some ti106, some ti107, some ti108, some ti109, some ti110, some ti111, some ti112, some ti113, none, some ti115, some ti116, some ti117, some ti118, some ti119, some ti120, some ti121, some ti122, some ti123, some ti124, some ti125, some ti126, some ti127, some ti128, some ti129, none, some ti131, none, some ti133, none, some ti135, some ti136, some ti137, some ti138, some ti139, some ti140, none, some ti142, some ti143, some ti144, some ti145, some ti146, some ti147, some ti148, some ti149, some ti150, some ti151, some ti152, some ti153, some ti154, some ti155, some ti156, some ti157, some ti158, some ti159, some ti160, some ti161, some ti162, some ti163, some ti164, some ti165, some ti166, some ti167, some ti168, some ti169, some ti170, some ti171, none, some ti173, none, some ti175, some ti176, some ti177, some ti178, some ti179, some ti180, some ti181, some ti182, some ti183, some ti184, some ti185, some ti186, some ti187, some ti188, some ti189, some ti190, some ti191, some ti192, some ti193, some ti194, some ti195, some ti196, some ti197, some ti198, none, some ti200, some ti201, some ti202, some ti203, some ti204, some ti205, some ti206, some ti207, some ti208, some ti209, some ti210, some ti211, some ti212, some ti213, some ti214, some ti215, some ti216, none, some ti218, some ti219, some ti220, some ti221, some ti222, none, some ti224, some ti225, some ti226, some ti227, some ti228, some ti229, some ti230, some ti231, some ti232, some ti233, some ti234, some ti235, some ti236, some ti237, some ti238, some ti239, some ti240, some ti241, some ti242, some ti243, some ti244, some ti245, some ti246, some ti247, some ti248, some ti249, some ti250, some ti251, some ti252, some ti253, some ti254, some ti255, some ti256, some ti257, some ti258, some ti259, some ti260, some ti261, some ti262, some ti263, some ti264, some ti265, some ti266, some ti267, some ti268, some ti269, none, some ti271, some ti272, some ti273, some ti274, some ti275, some ti276, some ti277, some ti278, some ti279, some ti280, some ti281, some ti282, some ti283, some ti284, some ti285, some ti286, some ti287, some ti288, some ti289]
def T : Ty := fun t => (tys[t]?).getD none
@[simp] theorem T_1 : T 1 = some ⟨.func #[] #[] false, 1, 8, .nilFn, .nilFunc, none, false, false⟩ := rfl
@[simp] theorem T_2 : T 2 = some ⟨.int .i64, 1, 8, .int .i64 0, .int .i64 0, some (.int .i64), false, false⟩ := rfl
@[simp] theorem T_3 : T 3 = some ⟨.int .i64, 1, 8, .int .i64 0, .int .i64 0, some (.int .i64), false, false⟩ := rfl
@[simp] theorem T_4 : T 4 = some ⟨.bool, 1, 1, .bool false, .bool false, some .bool, false, false⟩ := rfl
@[simp] theorem T_5 : T 5 = some ⟨.int .u8, 1, 1, .int .u8 0, .int .u8 0, some (.int .u8), false, false⟩ := rfl
@[simp] theorem T_6 : T 6 = some ⟨.int .u8, 1, 1, .int .u8 0, .int .u8 0, some (.int .u8), false, false⟩ := rfl
@[simp] theorem T_7 : T 7 = some ⟨.struct #[⟨ "x", 2, 0, false, "", "runtime", 0⟩, ⟨ "y", 3, 1, false, "", "runtime", 8⟩, ⟨ "signed", 4, 2, false, "", "runtime", 16⟩, ⟨ "code", 6, 3, false, "", "runtime", 17⟩], 4, 24, .agg [.int .i64 0, .int .i64 0, .bool false, .int .u8 0], .agg #[.int .i64 0, .int .i64 0, .bool false, .int .u8 0], none, true, false⟩ := rfl
@[simp] theorem T_8 : T 8 = some ⟨.struct #[⟨ "x", 2, 0, false, "", "runtime", 0⟩, ⟨ "y", 3, 1, false, "", "runtime", 8⟩, ⟨ "signed", 4, 2, false, "", "runtime", 16⟩, ⟨ "code", 6, 3, false, "", "runtime", 17⟩], 4, 24, .agg [.int .i64 0, .int .i64 0, .bool false, .int .u8 0], .agg #[.int .i64 0, .int .i64 0, .bool false, .int .u8 0], none, true, false⟩ := rfl
@[simp] theorem T_9 : T 9 = some ⟨.string, 1, 16, .str ByteArray.empty, .string ByteArray.empty, some .str, false, false⟩ := rfl
@[simp] theorem T_10 : T 10 = some ⟨.string, 1, 16, .str ByteArray.empty, .string ByteArray.empty, some .str, false, false⟩ := rfl
@[simp] theorem T_11 : T 11 = some ⟨.string, 1, 16, .str ByteArray.empty, .string ByteArray.empty, some .str, false, false⟩ := rfl
@[simp] theorem T_12 : T 12 = some ⟨.int .u64, 1, 8, .int .u64 0, .int .u64 0, some (.int .u64), false, false⟩ := rfl
@[simp] theorem T_13 : T 13 = some ⟨.struct #[⟨ "msg", 9, 0, false, "", "runtime", 0⟩, ⟨ "addr", 12, 1, false, "", "runtime", 16⟩], 2, 24, .agg [.str ByteArray.empty, .int .u64 0], .agg #[.string ByteArray.empty, .int .u64 0], none, false, false⟩ := rfl
@[simp] theorem T_14 : T 14 = some ⟨.struct #[⟨ "msg", 9, 0, false, "", "runtime", 0⟩, ⟨ "addr", 12, 1, false, "", "runtime", 16⟩], 2, 24, .agg [.str ByteArray.empty, .int .u64 0], .agg #[.string ByteArray.empty, .int .u64 0], none, false, false⟩ := rfl
@[simp] theorem T_15 : T 15 = some ⟨.pointer 278, 1, 8, .nilP, .pointer none, none, false, false⟩ := rfl
@[simp] theorem T_16 : T 16 = some ⟨.pointer 281, 1, 8, .nilP, .pointer none, none, false, false⟩ := rfl
@[simp] theorem T_17 : T 17 = some ⟨.pointer 289, 1, 8, .nilP, .pointer none, none, false, false⟩ := rfl
@[simp] theorem T_18 : T 18 = some ⟨.struct #[⟨ "typ", 17, 0, false, "", "internal/runtime/maps", 0⟩], 1, 8, .agg [.nilP], .agg #[.pointer none], none, false, false⟩ := rfl
@[simp] theorem T_19 : T 19 = some ⟨.struct #[⟨ "typ", 17, 0, false, "", "internal/runtime/maps", 0⟩], 1, 8, .agg [.nilP], .agg #[.pointer none], none, false, false⟩ := rfl
@[simp] theorem T_21 : T 21 = some ⟨.int .i32, 1, 4, .int .i32 0, .int .i32 0, some (.int .i32), false, false⟩ := rfl
@[simp] theorem T_22 : T 22 = some ⟨.slice 155, 1, 24, .nilS, .slice none 0 0, none, false, false⟩ := rfl
@[simp] theorem T_23 : T 23 = some ⟨.struct #[⟨ "Attrs", 5, 0, false, "", "", 0⟩, ⟨ "Gap", 5, 1, false, "", "", 1⟩, ⟨ "Rows", 22, 2, false, "", "", 8⟩], 3, 32, .agg [.int .u8 0, .int .u8 0, .nilS], .agg #[.int .u8 0, .int .u8 0, .slice none 0 0], none, true, false⟩ := rfl
@[simp] theorem T_24 : T 24 = some ⟨.struct #[⟨ "Attrs", 5, 0, false, "", "", 0⟩, ⟨ "Gap", 5, 1, false, "", "", 1⟩, ⟨ "Rows", 22, 2, false, "", "", 8⟩], 3, 32, .agg [.int .u8 0, .int .u8 0, .nilS], .agg #[.int .u8 0, .int .u8 0, .slice none 0 0], none, true, false⟩ := rfl
@[simp] theorem T_25 : T 25 = some ⟨.slice 158, 1, 24, .nilS, .slice none 0 0, none, false, false⟩ := rfl
@[simp] theorem T_26 : T 26 = some ⟨.struct #[⟨ "T", 24, 0, false, "", "", 0⟩, ⟨ "F", 25, 3, false, "", "", 32⟩], 4, 56, .agg [.int .u8 0, .int .u8 0, .nilS, .nilS], .agg #[.int .u8 0, .int .u8 0, .slice none 0 0, .slice none 0 0], none, true, false⟩ := rfl
@[simp] theorem T_27 : T 27 = some ⟨.struct #[⟨ "T", 24, 0, false, "", "", 0⟩, ⟨ "F", 25, 3, false, "", "", 32⟩], 4, 56, .agg [.int .u8 0, .int .u8 0, .nilS, .nilS], .agg #[.int .u8 0, .int .u8 0, .slice none 0 0, .slice none 0 0], none, true, false⟩ := rfl
@[simp] theorem T_28 : T 28 = some ⟨.int .u16, 1, 2, .int .u16 0, .int .u16 0, some (.int .u16), false, false⟩ := rfl
@[simp] theorem T_29 : T 29 = some ⟨.slice 9, 1, 24, .nilS, .slice none 0 0, none, false, false⟩ := rfl
@[simp] theorem T_30 : T 30 = some ⟨.slice 66, 1, 24, .nilS, .slice none 0 0, none, false, false⟩ := rfl
@[simp] theorem T_31 : T 31 = some ⟨.struct #[⟨ "Name", 9, 0, false, "", "", 0⟩, ⟨ "Attrs", 29, 1, false, "", "", 16⟩, ⟨ "Rows", 30, 2, false, "", "", 40⟩], 3, 64, .agg [.str ByteArray.empty, .nilS, .nilS], .agg #[.string ByteArray.empty, .slice none 0 0, .slice none 0 0], none, true, false⟩ := rfl
@[simp] theorem T_32 : T 32 = some ⟨.struct #[⟨ "Name", 9, 0, false, "", "", 0⟩, ⟨ "Attrs", 29, 1, false, "", "", 16⟩, ⟨ "Rows", 30, 2, false, "", "", 40⟩], 3, 64, .agg [.str ByteArray.empty, .nilS, .nilS], .agg #[.string ByteArray.empty, .slice none 0 0, .slice none 0 0], none, true, false⟩ := rfl
@[simp] theorem T_33 : T 33 = some ⟨.slice 46, 1, 24, .nilS, .slice none 0 0, none, false, false⟩ := rfl
@[simp] theorem T_35 : T 35 = some ⟨.func #[27] #[32, 33, 4] false, 1, 8, .nilFn, .nilFunc, none, false, false⟩ := rfl
@[simp] theorem T_36 : T 36 = some ⟨.func #[] #[4] false, 1, 8, .nilFn, .nilFunc, none, false, false⟩ := rfl
@[simp] theorem T_37 : T 37 = some ⟨.slice 49, 1, 24, .nilS, .slice none 0 0, none, false, false⟩ := rfl
@[simp] theorem T_38 : T 38 = some ⟨.func #[32, 28] #[37] false, 1, 8, .nilFn, .nilFunc, none, false, false⟩ := rfl
@[simp] theorem T_39 : T 39 = some ⟨.int .i64, 1, 8, .int .i64 0, .int .i64 0, some (.int .i64), false, false⟩ := rfl
@[simp] theorem T_41 : T 41 = some ⟨.func #[32, 33, 37] #[4, 39] false, 1, 8, .nilFn, .nilFunc, none, false, false⟩ := rfl
@[simp] theorem T_42 : T 42 = some ⟨.func #[33] #[33] false, 1, 8, .nilFn, .nilFunc, none, false, false⟩ := rfl
@[simp] theorem T_43 : T 43 = some ⟨.int .u32, 1, 4, .int .u32 0, .int .u32 0, some (.int .u32), false, false⟩ := rfl
@[simp] theorem T_44 : T 44 = some ⟨.int .u32, 1, 4, .int .u32 0, .int .u32 0, some (.int .u32), false, false⟩ := rfl
@[simp] theorem T_45 : T 45 = some ⟨.struct #[⟨ "Lhs", 44, 0, false, "", "", 0⟩, ⟨ "Rhs", 44, 1, false, "", "", 4⟩], 2, 8, .agg [.int .u32 0, .int .u32 0], .agg #[.int .u32 0, .int .u32 0], none, true, false⟩ := rfl
@[simp] theorem T_46 : T 46 = some ⟨.struct #[⟨ "Lhs", 44, 0, false, "", "", 0⟩, ⟨ "Rhs", 44, 1, false, "", "", 4⟩], 2, 8, .agg [.int .u32 0, .int .u32 0], .agg #[.int .u32 0, .int .u32 0], none, true, false⟩ := rfl
@[simp] theorem T_47 : T 47 = some ⟨.func #[37] #[37] false, 1, 8, .nilFn, .nilFunc, none, false, false⟩ := rfl
@[simp] theorem T_48 : T 48 = some ⟨.struct #[⟨ "ID", 2, 0, false, "", "", 0⟩, ⟨ "Attr", 3, 1, false, "", "", 8⟩], 2, 16, .agg [.int .i64 0, .int .i64 0], .agg #[.int .i64 0, .int .i64 0], none, true, false⟩ := rfl
@[simp] theorem T_49 : T 49 = some ⟨.struct #[⟨ "ID", 2, 0, false, "", "", 0⟩, ⟨ "Attr", 3, 1, false, "", "", 8⟩], 2, 16, .agg [.int .i64 0, .int .i64 0], .agg #[.int .i64 0, .int .i64 0], none, true, false⟩ := rfl
@[simp] theorem T_50 : T 50 = some ⟨.func #[32, 33, 37] #[4] false, 1, 8, .nilFn, .nilFunc, none, false, false⟩ := rfl
@[simp] theorem T_51 : T 51 = some ⟨.func #[27, 28, 28] #[4] false, 1, 8, .nilFn, .nilFunc, none, false, false⟩ := rfl
@[simp] theorem T_52 : T 52 = some ⟨.array 2 5, 2, 2, .agg [.int .u8 0, .int .u8 0], .agg #[.int .u8 0, .int .u8 0], none, true, false⟩ := rfl
@[simp] theorem T_53 : T 53 = some ⟨.func #[32] #[37] false, 1, 8, .nilFn, .nilFunc, none, false, false⟩ := rfl
@[simp] theorem T_54 : T 54 = some ⟨.func #[27, 52] #[4] false, 1, 8, .nilFn, .nilFunc, none, false, false⟩ := rfl
@[simp] theorem T_56 : T 56 = some ⟨.func #[32, 33, 37] #[37, 39] false, 1, 8, .nilFn, .nilFunc, none, false, false⟩ := rfl
@[simp] theorem T_57 : T 57 = some ⟨.func #[32, 37] #[37] false, 1, 8, .nilFn, .nilFunc, none, false, false⟩ := rfl
@[simp] theorem T_58 : T 58 = some ⟨.func #[27, 28] #[4] false, 1, 8, .nilFn, .nilFunc, none, false, false⟩ := rfl
@[simp] theorem T_60 : T 60 = some ⟨.func #[32, 33, 37] #[32, 39] false, 1, 8, .nilFn, .nilFunc, none, false, false⟩ := rfl
@[simp] theorem T_62 : T 62 = some ⟨.func #[32, 33, 37] #[3, 39] false, 1, 8, .nilFn, .nilFunc, none, false, false⟩ := rfl
@[simp] theorem T_63 : T 63 = some ⟨.func #[32, 32] #[4] false, 1, 8, .nilFn, .nilFunc, none, false, false⟩ := rfl
@[simp] theorem T_64 : T 64 = some ⟨.slice 68, 1, 24, .nilS, .slice none 0 0, none, false, false⟩ := rfl
@[simp] theorem T_65 : T 65 = some ⟨.struct #[⟨ "ID", 2, 0, false, "", "", 0⟩, ⟨ "Values", 64, 1, false, "", "", 8⟩], 2, 32, .agg [.int .i64 0, .nilS], .agg #[.int .i64 0, .slice none 0 0], none, true, false⟩ := rfl
@[simp] theorem T_66 : T 66 = some ⟨.struct #[⟨ "ID", 2, 0, false, "", "", 0⟩, ⟨ "Values", 64, 1, false, "", "", 8⟩], 2, 32, .agg [.int .i64 0, .nilS], .agg #[.int .i64 0, .slice none 0 0], none, true, false⟩ := rfl
@[simp] theorem T_67 : T 67 = some ⟨.struct #[⟨ "Kind", 3, 0, false, "", "", 0⟩, ⟨ "Num", 2, 1, false, "", "", 8⟩, ⟨ "Str", 9, 2, false, "", "", 16⟩], 3, 32, .agg [.int .i64 0, .int .i64 0, .str ByteArray.empty], .agg #[.int .i64 0, .int .i64 0, .string ByteArray.empty], none, true, false⟩ := rfl
@[simp] theorem T_68 : T 68 = some ⟨.struct #[⟨ "Kind", 3, 0, false, "", "", 0⟩, ⟨ "Num", 2, 1, false, "", "", 8⟩, ⟨ "Str", 9, 2, false, "", "", 16⟩], 3, 32, .agg [.int .i64 0, .int .i64 0, .str ByteArray.empty], .agg #[.int .i64 0, .int .i64 0, .string ByteArray.empty], none, true, false⟩ := rfl
@[simp] theorem T_69 : T 69 = some ⟨.func #[37, 49] #[4] false, 1, 8, .nilFn, .nilFunc, none, false, false⟩ := rfl
@[simp] theorem T_70 : T 70 = some ⟨.func #[32, 33] #[4] false, 1, 8, .nilFn, .nilFunc, none, false, false⟩ := rfl
@[simp] theorem T_71 : T 71 = some ⟨.slice 37, 1, 24, .nilS, .slice none 0 0, none, false, false⟩ := rfl
@[simp] theorem T_72 : T 72 = some ⟨.slice 90, 1, 24, .nilS, .slice none 0 0, none, false, false⟩ := rfl
@[simp] theorem T_73 : T 73 = some ⟨.struct #[⟨ "Cells", 37, 0, false, "", "", 0⟩, ⟨ "Table", 32, 1, false, "", "", 24⟩, ⟨ "Cores", 71, 4, false, "", "", 88⟩, ⟨ "Proof", 72, 5, false, "", "", 112⟩], 6, 136, .agg [.nilS, .str ByteArray.empty, .nilS, .nilS, .nilS, .nilS], .agg #[.slice none 0 0, .string ByteArray.empty, .slice none 0 0, .slice none 0 0, .slice none 0 0, .slice none 0 0], none, true, false⟩ := rfl
@[simp] theorem T_74 : T 74 = some ⟨.struct #[⟨ "Cells", 37, 0, false, "", "", 0⟩, ⟨ "Table", 32, 1, false, "", "", 24⟩, ⟨ "Cores", 71, 4, false, "", "", 88⟩, ⟨ "Proof", 72, 5, false, "", "", 112⟩], 6, 136, .agg [.nilS, .str ByteArray.empty, .nilS, .nilS, .nilS, .nilS], .agg #[.slice none 0 0, .string ByteArray.empty, .slice none 0 0, .slice none 0 0, .slice none 0 0, .slice none 0 0], none, true, false⟩ := rfl
@[simp] theorem T_76 : T 76 = some ⟨.func #[32, 33, 3] #[74, 39] false, 1, 8, .nilFn, .nilFunc, none, false, false⟩ := rfl
@[simp] theorem T_77 : T 77 = some ⟨.func #[32, 33, 74] #[4] false, 1, 8, .nilFn, .nilFunc, none, false, false⟩ := rfl
@[simp] theorem T_78 : T 78 = some ⟨.func #[32, 33] #[3] false, 1, 8, .nilFn, .nilFunc, none, false, false⟩ := rfl
@[simp] theorem T_79 : T 79 = some ⟨.func #[27] #[4] false, 1, 8, .nilFn, .nilFunc, none, false, false⟩ := rfl
@[simp] theorem T_80 : T 80 = some ⟨.int .i8, 1, 1, .int .i8 0, .int .i8 0, some (.int .i8), false, false⟩ := rfl
@[simp] theorem T_81 : T 81 = some ⟨.struct #[⟨ "Kind", 5, 0, false, "", "", 0⟩, ⟨ "At", 5, 1, false, "", "", 1⟩, ⟨ "By", 80, 2, false, "", "", 2⟩], 3, 3, .agg [.int .u8 0, .int .u8 0, .int .i8 0], .agg #[.int .u8 0, .int .u8 0, .int .i8 0], none, true, false⟩ := rfl
@[simp] theorem T_82 : T 82 = some ⟨.struct #[⟨ "Kind", 5, 0, false, "", "", 0⟩, ⟨ "At", 5, 1, false, "", "", 1⟩, ⟨ "By", 80, 2, false, "", "", 2⟩], 3, 3, .agg [.int .u8 0, .int .u8 0, .int .i8 0], .agg #[.int .u8 0, .int .u8 0, .int .i8 0], none, true, false⟩ := rfl
@[simp] theorem T_83 : T 83 = some ⟨.array 2 82, 6, 6, .agg [.int .u8 0, .int .u8 0, .int .i8 0, .int .u8 0, .int .u8 0, .int .i8 0], .agg #[.int .u8 0, .int .u8 0, .int .i8 0, .int .u8 0, .int .u8 0, .int .i8 0], none, true, false⟩ := rfl
@[simp] theorem T_84 : T 84 = some ⟨.func #[32, 74, 82] #[74] false, 1, 8, .nilFn, .nilFunc, none, false, false⟩ := rfl
@[simp] theorem T_85 : T 85 = some ⟨.func #[27, 83] #[4] false, 1, 8, .nilFn, .nilFunc, none, false, false⟩ := rfl
@[simp] theorem T_86 : T 86 = some ⟨.func #[32, 33, 37] #[39] false, 1, 8, .nilFn, .nilFunc, none, false, false⟩ := rfl
@[simp] theorem T_87 : T 87 = some ⟨.func #[32, 33] #[39] false, 1, 8, .nilFn, .nilFunc, none, false, false⟩ := rfl
@[simp] theorem T_88 : T 88 = some ⟨.slice 151, 1, 24, .nilS, .slice none 0 0, none, false, false⟩ := rfl
@[simp] theorem T_89 : T 89 = some ⟨.struct #[⟨ "Vertex", 3, 0, false, "", "", 0⟩, ⟨ "Shares", 88, 1, false, "", "", 8⟩], 2, 32, .agg [.int .i64 0, .nilS], .agg #[.int .i64 0, .slice none 0 0], none, true, false⟩ := rfl
@[simp] theorem T_90 : T 90 = some ⟨.struct #[⟨ "Vertex", 3, 0, false, "", "", 0⟩, ⟨ "Shares", 88, 1, false, "", "", 8⟩], 2, 32, .agg [.int .i64 0, .nilS], .agg #[.int .i64 0, .slice none 0 0], none, true, false⟩ := rfl
@[simp] theorem T_91 : T 91 = some ⟨.func #[24, 3] #[32] false, 1, 8, .nilFn, .nilFunc, none, false, false⟩ := rfl
@[simp] theorem T_92 : T 92 = some ⟨.func #[3, 25] #[33] false, 1, 8, .nilFn, .nilFunc, none, false, false⟩ := rfl
@[simp] theorem T_93 : T 93 = some ⟨.func #[] #[32] false, 1, 8, .nilFn, .nilFunc, none, false, false⟩ := rfl
@[simp] theorem T_94 : T 94 = some ⟨.func #[5] #[68] false, 1, 8, .nilFn, .nilFunc, none, false, false⟩ := rfl
@[simp] theorem T_95 : T 95 = some ⟨.func #[37, 37] #[4] false, 1, 8, .nilFn, .nilFunc, none, false, false⟩ := rfl
@[simp] theorem T_96 : T 96 = some ⟨.slice 115, 1, 24, .nilS, .slice none 0 0, none, false, false⟩ := rfl
@[simp] theorem T_98 : T 98 = some ⟨.func #[32, 33, 37] #[96, 4] false, 1, 8, .nilFn, .nilFunc, none, false, false⟩ := rfl
@[simp] theorem T_99 : T 99 = some ⟨.func #[32, 49] #[68] false, 1, 8, .nilFn, .nilFunc, none, false, false⟩ := rfl
@[simp] theorem T_100 : T 100 = some ⟨.func #[32, 49, 68] #[32, 39] false, 1, 8, .nilFn, .nilFunc, none, false, false⟩ := rfl
@[simp] theorem T_101 : T 101 = some ⟨.func #[32, 33, 37] #[37] false, 1, 8, .nilFn, .nilFunc, none, false, false⟩ := rfl
@[simp] theorem T_102 : T 102 = some ⟨.pointer 112, 1, 8, .nilP, .pointer none, none, false, false⟩ := rfl
@[simp] theorem T_103 : T 103 = some ⟨.func #[32, 37] #[102] false, 1, 8, .nilFn, .nilFunc, none, false, false⟩ := rfl
@[simp] theorem T_104 : T 104 = some ⟨.func #[3, 33] #[4] false, 1, 8, .nilFn, .nilFunc, none, false, false⟩ := rfl
@[simp] theorem T_105 : T 105 = some ⟨.map 2 4, 1, 8, .nilM, .map none, none, false, false⟩ := rfl
@[simp] theorem T_106 : T 106 = some ⟨.func #[29] #[29] false, 1, 8, .nilFn, .nilFunc, none, false, false⟩ := rfl
@[simp] theorem T_107 : T 107 = some ⟨.map 3 68, 1, 8, .nilM, .map none, none, false, false⟩ := rfl
@[simp] theorem T_108 : T 108 = some ⟨.func #[3] #[3] false, 1, 8, .nilFn, .nilFunc, none, false, false⟩ := rfl
@[simp] theorem T_109 : T 109 = some ⟨.slice 3, 1, 24, .nilS, .slice none 0 0, none, false, false⟩ := rfl
@[simp] theorem T_110 : T 110 = some ⟨.slice 113, 1, 24, .nilS, .slice none 0 0, none, false, false⟩ := rfl
@[simp] theorem T_111 : T 111 = some ⟨.struct #[⟨ "n", 3, 0, false, "", "dross/update", 0⟩, ⟨ "parent", 109, 1, false, "", "dross/update", 8⟩, ⟨ "known", 110, 2, false, "", "dross/update", 32⟩], 3, 56, .agg [.int .i64 0, .nilS, .nilS], .agg #[.int .i64 0, .slice none 0 0, .slice none 0 0], none, true, false⟩ := rfl
@[simp] theorem T_112 : T 112 = some ⟨.struct #[⟨ "n", 3, 0, false, "", "dross/update", 0⟩, ⟨ "parent", 109, 1, false, "", "dross/update", 8⟩, ⟨ "known", 110, 2, false, "", "dross/update", 32⟩], 3, 56, .agg [.int .i64 0, .nilS, .nilS], .agg #[.int .i64 0, .slice none 0 0, .slice none 0 0], none, true, false⟩ := rfl
@[simp] theorem T_113 : T 113 = some ⟨.pointer 68, 1, 8, .nilP, .pointer none, none, false, false⟩ := rfl
@[simp] theorem T_115 : T 115 = some ⟨.slice 117, 1, 24, .nilS, .slice none 0 0, none, false, false⟩ := rfl
@[simp] theorem T_116 : T 116 = some ⟨.struct #[⟨ "V", 68, 0, false, "", "", 0⟩, ⟨ "Symbol", 3, 3, false, "", "", 32⟩], 4, 40, .agg [.int .i64 0, .int .i64 0, .str ByteArray.empty, .int .i64 0], .agg #[.int .i64 0, .int .i64 0, .string ByteArray.empty, .int .i64 0], none, true, false⟩ := rfl
@[simp] theorem T_117 : T 117 = some ⟨.struct #[⟨ "V", 68, 0, false, "", "", 0⟩, ⟨ "Symbol", 3, 3, false, "", "", 32⟩], 4, 40, .agg [.int .i64 0, .int .i64 0, .str ByteArray.empty, .int .i64 0], .agg #[.int .i64 0, .int .i64 0, .string ByteArray.empty, .int .i64 0], none, true, false⟩ := rfl
@[simp] theorem T_118 : T 118 = some ⟨.func #[32, 2] #[4] false, 1, 8, .nilFn, .nilFunc, none, false, false⟩ := rfl
@[simp] theorem T_119 : T 119 = some ⟨.func #[96, 117, 117] #[] false, 1, 8, .nilFn, .nilFunc, none, false, false⟩ := rfl
@[simp] theorem T_120 : T 120 = some ⟨.func #[32, 30] #[32] false, 1, 8, .nilFn, .nilFunc, none, false, false⟩ := rfl
@[simp] theorem T_121 : T 121 = some ⟨.func #[32, 32] #[37] false, 1, 8, .nilFn, .nilFunc, none, false, false⟩ := rfl
@[simp] theorem T_122 : T 122 = some ⟨.func #[29, 29] #[4] false, 1, 8, .nilFn, .nilFunc, none, false, false⟩ := rfl
@[simp] theorem T_123 : T 123 = some ⟨.func #[66, 66] #[4] false, 1, 8, .nilFn, .nilFunc, none, false, false⟩ := rfl
@[simp] theorem T_124 : T 124 = some ⟨.func #[37, 49] #[3] false, 1, 8, .nilFn, .nilFunc, none, false, false⟩ := rfl
@[simp] theorem T_125 : T 125 = some ⟨.func #[66, 66, 44] #[4] false, 1, 8, .nilFn, .nilFunc, none, false, false⟩ := rfl
@[simp] theorem T_126 : T 126 = some ⟨.slice 2, 1, 24, .nilS, .slice none 0 0, none, false, false⟩ := rfl
@[simp] theorem T_127 : T 127 = some ⟨.slice 109, 1, 24, .nilS, .slice none 0 0, none, false, false⟩ := rfl
@[simp] theorem T_128 : T 128 = some ⟨.struct #[⟨ "Weights", 126, 0, false, "", "", 0⟩, ⟨ "Edges", 127, 1, false, "", "", 24⟩], 2, 48, .agg [.nilS, .nilS], .agg #[.slice none 0 0, .slice none 0 0], none, true, false⟩ := rfl
@[simp] theorem T_129 : T 129 = some ⟨.struct #[⟨ "Weights", 126, 0, false, "", "", 0⟩, ⟨ "Edges", 127, 1, false, "", "", 24⟩], 2, 48, .agg [.nilS, .nilS], .agg #[.slice none 0 0, .slice none 0 0], none, true, false⟩ := rfl
@[simp] theorem T_131 : T 131 = some ⟨.func #[71] #[129, 37] false, 1, 8, .nilFn, .nilFunc, none, false, false⟩ := rfl
@[simp] theorem T_133 : T 133 = some ⟨.func #[129, 3] #[109, 2, 39] false, 1, 8, .nilFn, .nilFunc, none, false, false⟩ := rfl
@[simp] theorem T_135 : T 135 = some ⟨.func #[129, 2, 3] #[72, 39] false, 1, 8, .nilFn, .nilFunc, none, false, false⟩ := rfl
@[simp] theorem T_136 : T 136 = some ⟨.func #[71, 137] #[] false, 1, 8, .nilFn, .nilFunc, none, false, false⟩ := rfl
@[simp] theorem T_137 : T 137 = some ⟨.func #[37, 37] #[3] false, 1, 8, .nilFn, .nilFunc, none, false, false⟩ := rfl
@[simp] theorem T_138 : T 138 = some ⟨.func #[32, 32, 37] #[4] false, 1, 8, .nilFn, .nilFunc, none, false, false⟩ := rfl
@[simp] theorem T_139 : T 139 = some ⟨.func #[129, 2, 72] #[4] false, 1, 8, .nilFn, .nilFunc, none, false, false⟩ := rfl
@[simp] theorem T_140 : T 140 = some ⟨.func #[32] #[39] false, 1, 8, .nilFn, .nilFunc, none, false, false⟩ := rfl
@[simp] theorem T_142 : T 142 = some ⟨.func #[37, 49, 143] #[3, 4] false, 1, 8, .nilFn, .nilFunc, none, false, false⟩ := rfl
@[simp] theorem T_143 : T 143 = some ⟨.func #[49, 49] #[3] false, 1, 8, .nilFn, .nilFunc, none, false, false⟩ := rfl
@[simp] theorem T_144 : T 144 = some ⟨.func #[37, 3, 3] #[37] false, 1, 8, .nilFn, .nilFunc, none, false, false⟩ := rfl
@[simp] theorem T_145 : T 145 = some ⟨.func #[71, 3, 3] #[71] false, 1, 8, .nilFn, .nilFunc, none, false, false⟩ := rfl
@[simp] theorem T_146 : T 146 = some ⟨.func #[71] #[71] false, 1, 8, .nilFn, .nilFunc, none, false, false⟩ := rfl
@[simp] theorem T_147 : T 147 = some ⟨.func #[72] #[72] false, 1, 8, .nilFn, .nilFunc, none, false, false⟩ := rfl
@[simp] theorem T_148 : T 148 = some ⟨.pointer 90, 1, 8, .nilP, .pointer none, none, false, false⟩ := rfl
@[simp] theorem T_149 : T 149 = some ⟨.func #[88] #[88] false, 1, 8, .nilFn, .nilFunc, none, false, false⟩ := rfl
@[simp] theorem T_150 : T 150 = some ⟨.struct #[⟨ "Edge", 3, 0, false, "", "", 0⟩, ⟨ "Amount", 2, 1, false, "", "", 8⟩], 2, 16, .agg [.int .i64 0, .int .i64 0], .agg #[.int .i64 0, .int .i64 0], none, true, false⟩ := rfl
@[simp] theorem T_151 : T 151 = some ⟨.struct #[⟨ "Edge", 3, 0, false, "", "", 0⟩, ⟨ "Amount", 2, 1, false, "", "", 8⟩], 2, 16, .agg [.int .i64 0, .int .i64 0], .agg #[.int .i64 0, .int .i64 0], none, true, false⟩ := rfl
@[simp] theorem T_152 : T 152 = some ⟨.func #[37, 3] #[37] false, 1, 8, .nilFn, .nilFunc, none, false, false⟩ := rfl
@[simp] theorem T_153 : T 153 = some ⟨.func #[49, 49] #[4] false, 1, 8, .nilFn, .nilFunc, none, false, false⟩ := rfl
@[simp] theorem T_154 : T 154 = some ⟨.func #[3, 33] #[39] false, 1, 8, .nilFn, .nilFunc, none, false, false⟩ := rfl
@[simp] theorem T_155 : T 155 = some ⟨.slice 5, 1, 24, .nilS, .slice none 0 0, none, false, false⟩ := rfl
@[simp] theorem T_156 : T 156 = some ⟨.func #[3] #[44] false, 1, 8, .nilFn, .nilFunc, none, false, false⟩ := rfl
@[simp] theorem T_157 : T 157 = some ⟨.struct #[⟨ "L", 5, 0, false, "", "", 0⟩, ⟨ "R", 5, 1, false, "", "", 1⟩], 2, 2, .agg [.int .u8 0, .int .u8 0], .agg #[.int .u8 0, .int .u8 0], none, true, false⟩ := rfl
@[simp] theorem T_158 : T 158 = some ⟨.struct #[⟨ "L", 5, 0, false, "", "", 0⟩, ⟨ "R", 5, 1, false, "", "", 1⟩], 2, 2, .agg [.int .u8 0, .int .u8 0], .agg #[.int .u8 0, .int .u8 0], none, true, false⟩ := rfl
@[simp] theorem T_159 : T 159 = some ⟨.func #[155] #[64] false, 1, 8, .nilFn, .nilFunc, none, false, false⟩ := rfl
@[simp] theorem T_160 : T 160 = some ⟨.func #[37] #[4] false, 1, 8, .nilFn, .nilFunc, none, false, false⟩ := rfl
@[simp] theorem T_161 : T 161 = some ⟨.func #[32, 2] #[3, 4] false, 1, 8, .nilFn, .nilFunc, none, false, false⟩ := rfl
@[simp] theorem T_162 : T 162 = some ⟨.func #[96, 33] #[3] false, 1, 8, .nilFn, .nilFunc, none, false, false⟩ := rfl
@[simp] theorem T_163 : T 163 = some ⟨.func #[68] #[4] false, 1, 8, .nilFn, .nilFunc, none, false, false⟩ := rfl
@[simp] theorem T_164 : T 164 = some ⟨.func #[3, 3, 44] #[4] false, 1, 8, .nilFn, .nilFunc, none, false, false⟩ := rfl
@[simp] theorem T_165 : T 165 = some ⟨.func #[3, 3] #[4] false, 1, 8, .nilFn, .nilFunc, none, false, false⟩ := rfl
@[simp] theorem T_166 : T 166 = some ⟨.func #[66] #[66] false, 1, 8, .nilFn, .nilFunc, none, false, false⟩ := rfl
@[simp] theorem T_167 : T 167 = some ⟨.func #[68, 68] #[3] false, 1, 8, .nilFn, .nilFunc, none, false, false⟩ := rfl
@[simp] theorem T_168 : T 168 = some ⟨.func #[64, 64] #[4] false, 1, 8, .nilFn, .nilFunc, none, false, false⟩ := rfl
@[simp] theorem T_169 : T 169 = some ⟨.func #[66, 44] #[64] false, 1, 8, .nilFn, .nilFunc, none, false, false⟩ := rfl
@[simp] theorem T_170 : T 170 = some ⟨.func #[71] #[37] true, 1, 8, .nilFn, .nilFunc, none, false, false⟩ := rfl
@[simp] theorem T_171 : T 171 = some ⟨.func #[37, 143] #[] false, 1, 8, .nilFn, .nilFunc, none, false, false⟩ := rfl
@[simp] theorem T_173 : T 173 = some ⟨.func #[129] #[109, 39] false, 1, 8, .nilFn, .nilFunc, none, false, false⟩ := rfl
@[simp] theorem T_175 : T 175 = some ⟨.func #[129, 109] #[2, 39] false, 1, 8, .nilFn, .nilFunc, none, false, false⟩ := rfl
@[simp] theorem T_176 : T 176 = some ⟨.pointer 178, 1, 8, .nilP, .pointer none, none, false, false⟩ := rfl
@[simp] theorem T_177 : T 177 = some ⟨.struct #[⟨ "l", 109, 0, false, "", "dross/hitset", 0⟩, ⟨ "weight", 2, 1, false, "", "dross/hitset", 24⟩], 2, 32, .agg [.nilS, .int .i64 0], .agg #[.slice none 0 0, .int .i64 0], none, true, false⟩ := rfl
@[simp] theorem T_178 : T 178 = some ⟨.struct #[⟨ "l", 109, 0, false, "", "dross/hitset", 0⟩, ⟨ "weight", 2, 1, false, "", "dross/hitset", 24⟩], 2, 32, .agg [.nilS, .int .i64 0], .agg #[.slice none 0 0, .int .i64 0], none, true, false⟩ := rfl
@[simp] theorem T_179 : T 179 = some ⟨.pointer 216, 1, 8, .nilP, .pointer none, none, false, false⟩ := rfl
@[simp] theorem T_180 : T 180 = some ⟨.func #[129, 3] #[179] false, 1, 8, .nilFn, .nilFunc, none, false, false⟩ := rfl
@[simp] theorem T_181 : T 181 = some ⟨.func #[176, 2] #[4] false, 1, 8, .nilFn, .nilFunc, none, false, false⟩ := rfl
@[simp] theorem T_182 : T 182 = some ⟨.func #[129] #[39] false, 1, 8, .nilFn, .nilFunc, none, false, false⟩ := rfl
@[simp] theorem T_183 : T 183 = some ⟨.func #[2] #[72, 39] false, 1, 8, .nilFn, .nilFunc, none, false, false⟩ := rfl
@[simp] theorem T_184 : T 184 = some ⟨.func #[71, 3, 3, 3, 137] #[] false, 1, 8, .nilFn, .nilFunc, none, false, false⟩ := rfl
@[simp] theorem T_185 : T 185 = some ⟨.func #[186] #[3] false, 1, 8, .nilFn, .nilFunc, none, false, false⟩ := rfl
@[simp] theorem T_186 : T 186 = some ⟨.int .u64, 1, 8, .int .u64 0, .int .u64 0, some (.int .u64), false, false⟩ := rfl
@[simp] theorem T_187 : T 187 = some ⟨.func #[37, 37, 143] #[3] false, 1, 8, .nilFn, .nilFunc, none, false, false⟩ := rfl
@[simp] theorem T_188 : T 188 = some ⟨.func #[2] #[4] false, 1, 8, .nilFn, .nilFunc, none, false, false⟩ := rfl
@[simp] theorem T_189 : T 189 = some ⟨.func #[129, 191, 72] #[3] false, 1, 8, .nilFn, .nilFunc, none, false, false⟩ := rfl
@[simp] theorem T_190 : T 190 = some ⟨.struct #[⟨ "Chosen", 109, 0, false, "", "", 0⟩, ⟨ "Excluded", 109, 1, false, "", "", 24⟩, ⟨ "Bound", 2, 2, false, "", "", 48⟩], 3, 56, .agg [.nilS, .nilS, .int .i64 0], .agg #[.slice none 0 0, .slice none 0 0, .int .i64 0], none, true, false⟩ := rfl
@[simp] theorem T_191 : T 191 = some ⟨.struct #[⟨ "Chosen", 109, 0, false, "", "", 0⟩, ⟨ "Excluded", 109, 1, false, "", "", 24⟩, ⟨ "Bound", 2, 2, false, "", "", 48⟩], 3, 56, .agg [.nilS, .nilS, .int .i64 0], .agg #[.slice none 0 0, .slice none 0 0, .int .i64 0], none, true, false⟩ := rfl
@[simp] theorem T_192 : T 192 = some ⟨.func #[9] #[4] false, 1, 8, .nilFn, .nilFunc, none, false, false⟩ := rfl
@[simp] theorem T_193 : T 193 = some ⟨.func #[29, 9] #[4] false, 1, 8, .nilFn, .nilFunc, none, false, false⟩ := rfl
@[simp] theorem T_194 : T 194 = some ⟨.func #[64] #[4] false, 1, 8, .nilFn, .nilFunc, none, false, false⟩ := rfl
@[simp] theorem T_195 : T 195 = some ⟨.func #[30, 30, 123] #[4] false, 1, 8, .nilFn, .nilFunc, none, false, false⟩ := rfl
@[simp] theorem T_196 : T 196 = some ⟨.func #[109] #[3] true, 1, 8, .nilFn, .nilFunc, none, false, false⟩ := rfl
@[simp] theorem T_197 : T 197 = some ⟨.func #[2, 2] #[3] false, 1, 8, .nilFn, .nilFunc, none, false, false⟩ := rfl
@[simp] theorem T_198 : T 198 = some ⟨.func #[3, 3] #[3] false, 1, 8, .nilFn, .nilFunc, none, false, false⟩ := rfl
@[simp] theorem T_200 : T 200 = some ⟨.func #[72, 2] #[72, 4] false, 1, 8, .nilFn, .nilFunc, none, false, false⟩ := rfl
@[simp] theorem T_201 : T 201 = some ⟨.func #[29] #[4] false, 1, 8, .nilFn, .nilFunc, none, false, false⟩ := rfl
@[simp] theorem T_202 : T 202 = some ⟨.func #[44, 44] #[4] false, 1, 8, .nilFn, .nilFunc, none, false, false⟩ := rfl
@[simp] theorem T_203 : T 203 = some ⟨.func #[30, 204] #[3] false, 1, 8, .nilFn, .nilFunc, none, false, false⟩ := rfl
@[simp] theorem T_204 : T 204 = some ⟨.func #[66] #[4] false, 1, 8, .nilFn, .nilFunc, none, false, false⟩ := rfl
@[simp] theorem T_205 : T 205 = some ⟨.func #[115, 115, 44] #[4] false, 1, 8, .nilFn, .nilFunc, none, false, false⟩ := rfl
@[simp] theorem T_206 : T 206 = some ⟨.func #[9, 9] #[3] false, 1, 8, .nilFn, .nilFunc, none, false, false⟩ := rfl
@[simp] theorem T_207 : T 207 = some ⟨.func #[64, 64] #[3] false, 1, 8, .nilFn, .nilFunc, none, false, false⟩ := rfl
@[simp] theorem T_208 : T 208 = some ⟨.func #[44, 3] #[4] false, 1, 8, .nilFn, .nilFunc, none, false, false⟩ := rfl
@[simp] theorem T_209 : T 209 = some ⟨.func #[37, 3, 3, 3, 143] #[] false, 1, 8, .nilFn, .nilFunc, none, false, false⟩ := rfl
@[simp] theorem T_210 : T 210 = some ⟨.func #[109, 198] #[] false, 1, 8, .nilFn, .nilFunc, none, false, false⟩ := rfl
@[simp] theorem T_211 : T 211 = some ⟨.func #[109, 212] #[4] false, 1, 8, .nilFn, .nilFunc, none, false, false⟩ := rfl
@[simp] theorem T_212 : T 212 = some ⟨.func #[3] #[4] false, 1, 8, .nilFn, .nilFunc, none, false, false⟩ := rfl
@[simp] theorem T_213 : T 213 = some ⟨.func #[109] #[] false, 1, 8, .nilFn, .nilFunc, none, false, false⟩ := rfl
@[simp] theorem T_214 : T 214 = some ⟨.func #[109, 3] #[4] false, 1, 8, .nilFn, .nilFunc, none, false, false⟩ := rfl
@[simp] theorem T_215 : T 215 = some ⟨.struct #[⟨ "in", 129, 0, false, "", "dross/hitset", 0⟩, ⟨ "marks", 109, 2, false, "", "dross/hitset", 48⟩, ⟨ "left", 3, 3, false, "", "dross/hitset", 72⟩], 4, 80, .agg [.nilS, .nilS, .nilS, .int .i64 0], .agg #[.slice none 0 0, .slice none 0 0, .slice none 0 0, .int .i64 0], none, true, false⟩ := rfl
@[simp] theorem T_216 : T 216 = some ⟨.struct #[⟨ "in", 129, 0, false, "", "dross/hitset", 0⟩, ⟨ "marks", 109, 2, false, "", "dross/hitset", 48⟩, ⟨ "left", 3, 3, false, "", "dross/hitset", 72⟩], 4, 80, .agg [.nilS, .nilS, .nilS, .int .i64 0], .agg #[.slice none 0 0, .slice none 0 0, .slice none 0 0, .int .i64 0], none, true, false⟩ := rfl
@[simp] theorem T_218 : T 218 = some ⟨.func #[] #[88, 2] false, 1, 8, .nilFn, .nilFunc, none, false, false⟩ := rfl
@[simp] theorem T_219 : T 219 = some ⟨.func #[] #[3] false, 1, 8, .nilFn, .nilFunc, none, false, false⟩ := rfl
@[simp] theorem T_220 : T 220 = some ⟨.func #[249] #[72] true, 1, 8, .nilFn, .nilFunc, none, false, false⟩ := rfl
@[simp] theorem T_221 : T 221 = some ⟨.func #[71, 3, 3, 137] #[] false, 1, 8, .nilFn, .nilFunc, none, false, false⟩ := rfl
@[simp] theorem T_222 : T 222 = some ⟨.int .i64, 1, 8, .int .i64 0, .int .i64 0, some (.int .i64), false, false⟩ := rfl
@[simp] theorem T_224 : T 224 = some ⟨.func #[71, 3, 3, 137] #[3, 222] false, 1, 8, .nilFn, .nilFunc, none, false, false⟩ := rfl
@[simp] theorem T_225 : T 225 = some ⟨.func #[71, 3, 3, 137] #[4] false, 1, 8, .nilFn, .nilFunc, none, false, false⟩ := rfl
@[simp] theorem T_226 : T 226 = some ⟨.func #[71, 3, 3, 3, 137] #[3] false, 1, 8, .nilFn, .nilFunc, none, false, false⟩ := rfl
@[simp] theorem T_227 : T 227 = some ⟨.func #[71, 3, 3, 3, 137] #[3, 4] false, 1, 8, .nilFn, .nilFunc, none, false, false⟩ := rfl
@[simp] theorem T_228 : T 228 = some ⟨.func #[43] #[3] false, 1, 8, .nilFn, .nilFunc, none, false, false⟩ := rfl
@[simp] theorem T_229 : T 229 = some ⟨.func #[230] #[3] false, 1, 8, .nilFn, .nilFunc, none, false, false⟩ := rfl
@[simp] theorem T_230 : T 230 = some ⟨.int .u64, 1, 8, .int .u64 0, .int .u64 0, some (.int .u64), false, false⟩ := rfl
@[simp] theorem T_231 : T 231 = some ⟨.func #[129, 191] #[4] false, 1, 8, .nilFn, .nilFunc, none, false, false⟩ := rfl
@[simp] theorem T_232 : T 232 = some ⟨.func #[129, 191, 88] #[4] false, 1, 8, .nilFn, .nilFunc, none, false, false⟩ := rfl
@[simp] theorem T_233 : T 233 = some ⟨.func #[29, 9] #[3] false, 1, 8, .nilFn, .nilFunc, none, false, false⟩ := rfl
@[simp] theorem T_234 : T 234 = some ⟨.func #[64, 163] #[4] false, 1, 8, .nilFn, .nilFunc, none, false, false⟩ := rfl
@[simp] theorem T_235 : T 235 = some ⟨.func #[88, 2] #[4] false, 1, 8, .nilFn, .nilFunc, none, false, false⟩ := rfl
@[simp] theorem T_236 : T 236 = some ⟨.func #[5] #[4] false, 1, 8, .nilFn, .nilFunc, none, false, false⟩ := rfl
@[simp] theorem T_237 : T 237 = some ⟨.func #[37, 3, 3, 143] #[] false, 1, 8, .nilFn, .nilFunc, none, false, false⟩ := rfl
@[simp] theorem T_238 : T 238 = some ⟨.func #[37, 3, 3, 143] #[3, 222] false, 1, 8, .nilFn, .nilFunc, none, false, false⟩ := rfl
@[simp] theorem T_239 : T 239 = some ⟨.func #[37, 3, 3, 143] #[4] false, 1, 8, .nilFn, .nilFunc, none, false, false⟩ := rfl
@[simp] theorem T_240 : T 240 = some ⟨.func #[37, 3, 3, 3, 143] #[3] false, 1, 8, .nilFn, .nilFunc, none, false, false⟩ := rfl
@[simp] theorem T_241 : T 241 = some ⟨.func #[37, 3, 3, 3, 143] #[3, 4] false, 1, 8, .nilFn, .nilFunc, none, false, false⟩ := rfl
@[simp] theorem T_242 : T 242 = some ⟨.func #[109, 3, 198] #[] false, 1, 8, .nilFn, .nilFunc, none, false, false⟩ := rfl
@[simp] theorem T_243 : T 243 = some ⟨.func #[109, 212] #[3] false, 1, 8, .nilFn, .nilFunc, none, false, false⟩ := rfl
@[simp] theorem T_244 : T 244 = some ⟨.func #[109, 3, 3, 3] #[] false, 1, 8, .nilFn, .nilFunc, none, false, false⟩ := rfl
@[simp] theorem T_245 : T 245 = some ⟨.func #[109, 3] #[3] false, 1, 8, .nilFn, .nilFunc, none, false, false⟩ := rfl
@[simp] theorem T_246 : T 246 = some ⟨.func #[127, 247] #[4] false, 1, 8, .nilFn, .nilFunc, none, false, false⟩ := rfl
@[simp] theorem T_247 : T 247 = some ⟨.func #[109] #[4] false, 1, 8, .nilFn, .nilFunc, none, false, false⟩ := rfl
@[simp] theorem T_248 : T 248 = some ⟨.func #[126] #[126] false, 1, 8, .nilFn, .nilFunc, none, false, false⟩ := rfl
@[simp] theorem T_249 : T 249 = some ⟨.slice 72, 1, 24, .nilS, .slice none 0 0, none, false, false⟩ := rfl
@[simp] theorem T_250 : T 250 = some ⟨.func #[72, 3] #[72] false, 1, 8, .nilFn, .nilFunc, none, false, false⟩ := rfl
@[simp] theorem T_251 : T 251 = some ⟨.int .u64, 1, 8, .int .u64 0, .int .u64 0, some (.int .u64), false, false⟩ := rfl
@[simp] theorem T_252 : T 252 = some ⟨.func #[3] #[186] false, 1, 8, .nilFn, .nilFunc, none, false, false⟩ := rfl
@[simp] theorem T_253 : T 253 = some ⟨.func #[] #[230] false, 1, 8, .nilFn, .nilFunc, none, false, false⟩ := rfl
@[simp] theorem T_254 : T 254 = some ⟨.func #[71, 3, 255, 137] #[3] false, 1, 8, .nilFn, .nilFunc, none, false, false⟩ := rfl
@[simp] theorem T_255 : T 255 = some ⟨.pointer 3, 1, 8, .nilP, .pointer none, none, false, false⟩ := rfl
@[simp] theorem T_256 : T 256 = some ⟨.func #[71, 3, 3, 3, 255, 137] #[3] false, 1, 8, .nilFn, .nilFunc, none, false, false⟩ := rfl
@[simp] theorem T_257 : T 257 = some ⟨.func #[109, 109] #[4] false, 1, 8, .nilFn, .nilFunc, none, false, false⟩ := rfl
@[simp] theorem T_258 : T 258 = some ⟨.func #[64, 163] #[3] false, 1, 8, .nilFn, .nilFunc, none, false, false⟩ := rfl
@[simp] theorem T_259 : T 259 = some ⟨.func #[37, 3, 255, 143] #[3] false, 1, 8, .nilFn, .nilFunc, none, false, false⟩ := rfl
@[simp] theorem T_260 : T 260 = some ⟨.func #[37, 3, 3, 3, 255, 143] #[3] false, 1, 8, .nilFn, .nilFunc, none, false, false⟩ := rfl
@[simp] theorem T_261 : T 261 = some ⟨.func #[109, 3, 3, 198] #[] false, 1, 8, .nilFn, .nilFunc, none, false, false⟩ := rfl
@[simp] theorem T_262 : T 262 = some ⟨.func #[109, 3, 3, 3, 198] #[] false, 1, 8, .nilFn, .nilFunc, none, false, false⟩ := rfl
@[simp] theorem T_263 : T 263 = some ⟨.func #[109, 3, 3] #[] false, 1, 8, .nilFn, .nilFunc, none, false, false⟩ := rfl
@[simp] theorem T_264 : T 264 = some ⟨.func #[109, 3, 3] #[3, 222] false, 1, 8, .nilFn, .nilFunc, none, false, false⟩ := rfl
@[simp] theorem T_265 : T 265 = some ⟨.func #[109, 3, 3] #[4] false, 1, 8, .nilFn, .nilFunc, none, false, false⟩ := rfl
@[simp] theorem T_266 : T 266 = some ⟨.func #[109, 3, 3, 3] #[3] false, 1, 8, .nilFn, .nilFunc, none, false, false⟩ := rfl
@[simp] theorem T_267 : T 267 = some ⟨.func #[109, 3, 3, 3] #[3, 4] false, 1, 8, .nilFn, .nilFunc, none, false, false⟩ := rfl
@[simp] theorem T_268 : T 268 = some ⟨.func #[127, 247] #[3] false, 1, 8, .nilFn, .nilFunc, none, false, false⟩ := rfl
@[simp] theorem T_269 : T 269 = some ⟨.pointer 251, 1, 8, .nilP, .pointer none, none, false, false⟩ := rfl
@[simp] theorem T_271 : T 271 = some ⟨.func #[71, 3, 3, 255, 137] #[3, 3] false, 1, 8, .nilFn, .nilFunc, none, false, false⟩ := rfl
@[simp] theorem T_272 : T 272 = some ⟨.func #[37, 3, 3, 255, 143] #[3, 3] false, 1, 8, .nilFn, .nilFunc, none, false, false⟩ := rfl
@[simp] theorem T_273 : T 273 = some ⟨.func #[109, 3, 255] #[3] false, 1, 8, .nilFn, .nilFunc, none, false, false⟩ := rfl
@[simp] theorem T_274 : T 274 = some ⟨.func #[109, 3, 3, 3, 255] #[3] false, 1, 8, .nilFn, .nilFunc, none, false, false⟩ := rfl
@[simp] theorem T_275 : T 275 = some ⟨.func #[109, 3, 3, 255] #[3, 3] false, 1, 8, .nilFn, .nilFunc, none, false, false⟩ := rfl
@[simp] theorem T_276 : T 276 = some ⟨.func #[] #[9] false, 1, 8, .nilFn, .nilFunc, none, false, false⟩ := rfl
@[simp] theorem T_277 : T 277 = some ⟨.struct #[⟨ "_interface", 17, 0, false, "", "runtime", 0⟩, ⟨ "concrete", 17, 1, false, "", "runtime", 8⟩, ⟨ "asserted", 17, 2, false, "", "runtime", 16⟩, ⟨ "missingMethod", 9, 3, false, "", "runtime", 24⟩], 4, 40, .agg [.nilP, .nilP, .nilP, .str ByteArray.empty], .agg #[.pointer none, .pointer none, .pointer none, .string ByteArray.empty], none, false, false⟩ := rfl
@[simp] theorem T_278 : T 278 = some ⟨.struct #[⟨ "_interface", 17, 0, false, "", "runtime", 0⟩, ⟨ "concrete", 17, 1, false, "", "runtime", 8⟩, ⟨ "asserted", 17, 2, false, "", "runtime", 16⟩, ⟨ "missingMethod", 9, 3, false, "", "runtime", 24⟩], 4, 40, .agg [.nilP, .nilP, .nilP, .str ByteArray.empty], .agg #[.pointer none, .pointer none, .pointer none, .string ByteArray.empty], none, false, false⟩ := rfl
@[simp] theorem T_279 : T 279 = some ⟨.array 0 16, 0, 0, .agg [], .agg #[], none, true, false⟩ := rfl
@[simp] theorem T_280 : T 280 = some ⟨.struct #[⟨ "_", 279, 0, false, "", "runtime", 0⟩], 0, 0, .agg [], .agg #[], none, false, false⟩ := rfl
@[simp] theorem T_281 : T 281 = some ⟨.struct #[⟨ "_", 279, 0, false, "", "runtime", 0⟩], 0, 0, .agg [], .agg #[], none, false, false⟩ := rfl
@[simp] theorem T_282 : T 282 = some ⟨.int .u8, 1, 1, .int .u8 0, .int .u8 0, some (.int .u8), false, false⟩ := rfl
@[simp] theorem T_283 : T 283 = some ⟨.int .u8, 1, 1, .int .u8 0, .int .u8 0, some (.int .u8), false, false⟩ := rfl
@[simp] theorem T_284 : T 284 = some ⟨.func #[290, 290] #[4] false, 1, 8, .nilFn, .nilFunc, none, false, false⟩ := rfl
@[simp] theorem T_285 : T 285 = some ⟨.pointer 5, 1, 8, .nilP, .pointer none, none, false, false⟩ := rfl
@[simp] theorem T_286 : T 286 = some ⟨.int .i32, 1, 4, .int .i32 0, .int .i32 0, some (.int .i32), false, false⟩ := rfl
@[simp] theorem T_287 : T 287 = some ⟨.int .i32, 1, 4, .int .i32 0, .int .i32 0, some (.int .i32), false, false⟩ := rfl
@[simp] theorem T_288 : T 288 = some ⟨.struct #[⟨ "Size_", 12, 0, false, "", "", 0⟩, ⟨ "PtrBytes", 12, 1, false, "", "", 8⟩, ⟨ "Hash", 43, 2, false, "", "", 16⟩, ⟨ "TFlag", 282, 3, false, "", "", 20⟩, ⟨ "Align_", 5, 4, false, "", "", 21⟩, ⟨ "FieldAlign_", 5, 5, false, "", "", 22⟩, ⟨ "Kind_", 283, 6, false, "", "", 23⟩, ⟨ "Equal", 284, 7, false, "", "", 24⟩, ⟨ "GCData", 285, 8, false, "", "", 32⟩, ⟨ "Str", 286, 9, false, "", "", 40⟩, ⟨ "PtrToThis", 287, 10, false, "", "", 44⟩], 11, 48, .agg [.int .u64 0, .int .u64 0, .int .u32 0, .int .u8 0, .int .u8 0, .int .u8 0, .int .u8 0, .nilFn, .nilP, .int .i32 0, .int .i32 0], .agg #[.int .u64 0, .int .u64 0, .int .u32 0, .int .u8 0, .int .u8 0, .int .u8 0, .int .u8 0, .nilFunc, .pointer none, .int .i32 0, .int .i32 0], none, false, false⟩ := rfl
@[simp] theorem T_289 : T 289 = some ⟨.struct #[⟨ "Size_", 12, 0, false, "", "", 0⟩, ⟨ "PtrBytes", 12, 1, false, "", "", 8⟩, ⟨ "Hash", 43, 2, false, "", "", 16⟩, ⟨ "TFlag", 282, 3, false, "", "", 20⟩, ⟨ "Align_", 5, 4, false, "", "", 21⟩, ⟨ "FieldAlign_", 5, 5, false, "", "", 22⟩, ⟨ "Kind_", 283, 6, false, "", "", 23⟩, ⟨ "Equal", 284, 7, false, "", "", 24⟩, ⟨ "GCData", 285, 8, false, "", "", 32⟩, ⟨ "Str", 286, 9, false, "", "", 40⟩, ⟨ "PtrToThis", 287, 10, false, "", "", 44⟩], 11, 48, .agg [.int .u64 0, .int .u64 0, .int .u32 0, .int .u8 0, .int .u8 0, .int .u8 0, .int .u8 0, .nilFn, .nilP, .int .i32 0, .int .i32 0], .agg #[.int .u64 0, .int .u64 0, .int .u32 0, .int .u8 0, .int .u8 0, .int .u8 0, .int .u8 0, .nilFunc, .pointer none, .int .i32 0, .int .i32 0], none, false, false⟩ := rfl
theorem tr1 : TRow Tryz.prog 1 (some ti1) := fun i h => by cases h; exact ⟨Tryz.underlying1, by kernel_rfl, by kernel_rfl, by kernel_rfl, (fun _ h => by cases h), (fun h => by cases h)⟩
theorem tr2 : TRow Tryz.prog 2 (some ti2) := fun i h => by cases h; exact ⟨Tryz.underlying2, by kernel_rfl, by kernel_rfl, by kernel_rfl, (fun _ h => by cases h; exact int_law Tryz.underlying2), (fun h => by cases h)⟩
theorem tr3 : TRow Tryz.prog 3 (some ti3) := fun i h => by cases h; exact ⟨Tryz.underlying3, by kernel_rfl, by kernel_rfl, by kernel_rfl, (fun _ h => by cases h; exact int_law Tryz.underlying3), (fun h => by cases h)⟩
theorem tr4 : TRow Tryz.prog 4 (some ti4) := fun i h => by cases h; exact ⟨Tryz.underlying4, by kernel_rfl, by kernel_rfl, by kernel_rfl, (fun _ h => by cases h; exact bool_law Tryz.underlying4), (fun h => by cases h)⟩
theorem tr5 : TRow Tryz.prog 5 (some ti5) := fun i h => by cases h; exact ⟨Tryz.underlying5, by kernel_rfl, by kernel_rfl, by kernel_rfl, (fun _ h => by cases h; exact int_law Tryz.underlying5), (fun h => by cases h)⟩
theorem tr6 : TRow Tryz.prog 6 (some ti6) := fun i h => by cases h; exact ⟨Tryz.underlying6, by kernel_rfl, by kernel_rfl, by kernel_rfl, (fun _ h => by cases h; exact int_law Tryz.underlying6), (fun h => by cases h)⟩
theorem tr7 : TRow Tryz.prog 7 (some ti7) := fun i h => by cases h; exact ⟨Tryz.underlying7, by kernel_rfl, by kernel_rfl, by kernel_rfl, (fun _ h => by cases h), (fun _ => ⟨by kernel_rfl, by kernel_rfl⟩)⟩
theorem tr8 : TRow Tryz.prog 8 (some ti8) := fun i h => by cases h; exact ⟨Tryz.underlying8, by kernel_rfl, by kernel_rfl, by kernel_rfl, (fun _ h => by cases h), (fun _ => ⟨by kernel_rfl, by kernel_rfl⟩)⟩
theorem tr9 : TRow Tryz.prog 9 (some ti9) := fun i h => by cases h; exact ⟨Tryz.underlying9, by kernel_rfl, by kernel_rfl, by kernel_rfl, (fun _ h => by cases h; exact str_law Tryz.underlying9), (fun h => by cases h)⟩
theorem tr10 : TRow Tryz.prog 10 (some ti10) := fun i h => by cases h; exact ⟨Tryz.underlying10, by kernel_rfl, by kernel_rfl, by kernel_rfl, (fun _ h => by cases h; exact str_law Tryz.underlying10), (fun h => by cases h)⟩
theorem tr11 : TRow Tryz.prog 11 (some ti11) := fun i h => by cases h; exact ⟨Tryz.underlying11, by kernel_rfl, by kernel_rfl, by kernel_rfl, (fun _ h => by cases h; exact str_law Tryz.underlying11), (fun h => by cases h)⟩
theorem tr12 : TRow Tryz.prog 12 (some ti12) := fun i h => by cases h; exact ⟨Tryz.underlying12, by kernel_rfl, by kernel_rfl, by kernel_rfl, (fun _ h => by cases h; exact int_law Tryz.underlying12), (fun h => by cases h)⟩
theorem tr13 : TRow Tryz.prog 13 (some ti13) := fun i h => by cases h; exact ⟨Tryz.underlying13, by kernel_rfl, by kernel_rfl, by kernel_rfl, (fun _ h => by cases h), (fun h => by cases h)⟩
theorem tr14 : TRow Tryz.prog 14 (some ti14) := fun i h => by cases h; exact ⟨Tryz.underlying14, by kernel_rfl, by kernel_rfl, by kernel_rfl, (fun _ h => by cases h), (fun h => by cases h)⟩
theorem tr15 : TRow Tryz.prog 15 (some ti15) := fun i h => by cases h; exact ⟨Tryz.underlying15, by kernel_rfl, by kernel_rfl, by kernel_rfl, (fun _ h => by cases h), (fun h => by cases h)⟩
theorem tr16 : TRow Tryz.prog 16 (some ti16) := fun i h => by cases h; exact ⟨Tryz.underlying16, by kernel_rfl, by kernel_rfl, by kernel_rfl, (fun _ h => by cases h), (fun h => by cases h)⟩
theorem tr17 : TRow Tryz.prog 17 (some ti17) := fun i h => by cases h; exact ⟨Tryz.underlying17, by kernel_rfl, by kernel_rfl, by kernel_rfl, (fun _ h => by cases h), (fun h => by cases h)⟩
theorem tr18 : TRow Tryz.prog 18 (some ti18) := fun i h => by cases h; exact ⟨Tryz.underlying18, by kernel_rfl, by kernel_rfl, by kernel_rfl, (fun _ h => by cases h), (fun h => by cases h)⟩
theorem tr19 : TRow Tryz.prog 19 (some ti19) := fun i h => by cases h; exact ⟨Tryz.underlying19, by kernel_rfl, by kernel_rfl, by kernel_rfl, (fun _ h => by cases h), (fun h => by cases h)⟩
theorem tr21 : TRow Tryz.prog 21 (some ti21) := fun i h => by cases h; exact ⟨Tryz.underlying21, by kernel_rfl, by kernel_rfl, by kernel_rfl, (fun _ h => by cases h; exact int_law Tryz.underlying21), (fun h => by cases h)⟩
theorem tr22 : TRow Tryz.prog 22 (some ti22) := fun i h => by cases h; exact ⟨Tryz.underlying22, by kernel_rfl, by kernel_rfl, by kernel_rfl, (fun _ h => by cases h), (fun h => by cases h)⟩
theorem tr23 : TRow Tryz.prog 23 (some ti23) := fun i h => by cases h; exact ⟨Tryz.underlying23, by kernel_rfl, by kernel_rfl, by kernel_rfl, (fun _ h => by cases h), (fun _ => ⟨by kernel_rfl, by kernel_rfl⟩)⟩
theorem tr24 : TRow Tryz.prog 24 (some ti24) := fun i h => by cases h; exact ⟨Tryz.underlying24, by kernel_rfl, by kernel_rfl, by kernel_rfl, (fun _ h => by cases h), (fun _ => ⟨by kernel_rfl, by kernel_rfl⟩)⟩
theorem tr25 : TRow Tryz.prog 25 (some ti25) := fun i h => by cases h; exact ⟨Tryz.underlying25, by kernel_rfl, by kernel_rfl, by kernel_rfl, (fun _ h => by cases h), (fun h => by cases h)⟩
theorem tr26 : TRow Tryz.prog 26 (some ti26) := fun i h => by cases h; exact ⟨Tryz.underlying26, by kernel_rfl, by kernel_rfl, by kernel_rfl, (fun _ h => by cases h), (fun _ => ⟨by kernel_rfl, by kernel_rfl⟩)⟩
theorem tr27 : TRow Tryz.prog 27 (some ti27) := fun i h => by cases h; exact ⟨Tryz.underlying27, by kernel_rfl, by kernel_rfl, by kernel_rfl, (fun _ h => by cases h), (fun _ => ⟨by kernel_rfl, by kernel_rfl⟩)⟩
theorem tr28 : TRow Tryz.prog 28 (some ti28) := fun i h => by cases h; exact ⟨Tryz.underlying28, by kernel_rfl, by kernel_rfl, by kernel_rfl, (fun _ h => by cases h; exact int_law Tryz.underlying28), (fun h => by cases h)⟩
theorem tr29 : TRow Tryz.prog 29 (some ti29) := fun i h => by cases h; exact ⟨Tryz.underlying29, by kernel_rfl, by kernel_rfl, by kernel_rfl, (fun _ h => by cases h), (fun h => by cases h)⟩
theorem tr30 : TRow Tryz.prog 30 (some ti30) := fun i h => by cases h; exact ⟨Tryz.underlying30, by kernel_rfl, by kernel_rfl, by kernel_rfl, (fun _ h => by cases h), (fun h => by cases h)⟩
theorem tr31 : TRow Tryz.prog 31 (some ti31) := fun i h => by cases h; exact ⟨Tryz.underlying31, by kernel_rfl, by kernel_rfl, by kernel_rfl, (fun _ h => by cases h), (fun _ => ⟨by kernel_rfl, by kernel_rfl⟩)⟩
theorem tr32 : TRow Tryz.prog 32 (some ti32) := fun i h => by cases h; exact ⟨Tryz.underlying32, by kernel_rfl, by kernel_rfl, by kernel_rfl, (fun _ h => by cases h), (fun _ => ⟨by kernel_rfl, by kernel_rfl⟩)⟩
theorem tr33 : TRow Tryz.prog 33 (some ti33) := fun i h => by cases h; exact ⟨Tryz.underlying33, by kernel_rfl, by kernel_rfl, by kernel_rfl, (fun _ h => by cases h), (fun h => by cases h)⟩
theorem tr35 : TRow Tryz.prog 35 (some ti35) := fun i h => by cases h; exact ⟨Tryz.underlying35, by kernel_rfl, by kernel_rfl, by kernel_rfl, (fun _ h => by cases h), (fun h => by cases h)⟩
theorem tr36 : TRow Tryz.prog 36 (some ti36) := fun i h => by cases h; exact ⟨Tryz.underlying36, by kernel_rfl, by kernel_rfl, by kernel_rfl, (fun _ h => by cases h), (fun h => by cases h)⟩
theorem tr37 : TRow Tryz.prog 37 (some ti37) := fun i h => by cases h; exact ⟨Tryz.underlying37, by kernel_rfl, by kernel_rfl, by kernel_rfl, (fun _ h => by cases h), (fun h => by cases h)⟩
theorem tr38 : TRow Tryz.prog 38 (some ti38) := fun i h => by cases h; exact ⟨Tryz.underlying38, by kernel_rfl, by kernel_rfl, by kernel_rfl, (fun _ h => by cases h), (fun h => by cases h)⟩
theorem tr39 : TRow Tryz.prog 39 (some ti39) := fun i h => by cases h; exact ⟨Tryz.underlying39, by kernel_rfl, by kernel_rfl, by kernel_rfl, (fun _ h => by cases h; exact int_law Tryz.underlying39), (fun h => by cases h)⟩
theorem tr41 : TRow Tryz.prog 41 (some ti41) := fun i h => by cases h; exact ⟨Tryz.underlying41, by kernel_rfl, by kernel_rfl, by kernel_rfl, (fun _ h => by cases h), (fun h => by cases h)⟩
theorem tr42 : TRow Tryz.prog 42 (some ti42) := fun i h => by cases h; exact ⟨Tryz.underlying42, by kernel_rfl, by kernel_rfl, by kernel_rfl, (fun _ h => by cases h), (fun h => by cases h)⟩
theorem tr43 : TRow Tryz.prog 43 (some ti43) := fun i h => by cases h; exact ⟨Tryz.underlying43, by kernel_rfl, by kernel_rfl, by kernel_rfl, (fun _ h => by cases h; exact int_law Tryz.underlying43), (fun h => by cases h)⟩
theorem tr44 : TRow Tryz.prog 44 (some ti44) := fun i h => by cases h; exact ⟨Tryz.underlying44, by kernel_rfl, by kernel_rfl, by kernel_rfl, (fun _ h => by cases h; exact int_law Tryz.underlying44), (fun h => by cases h)⟩
theorem tr45 : TRow Tryz.prog 45 (some ti45) := fun i h => by cases h; exact ⟨Tryz.underlying45, by kernel_rfl, by kernel_rfl, by kernel_rfl, (fun _ h => by cases h), (fun _ => ⟨by kernel_rfl, by kernel_rfl⟩)⟩
theorem tr46 : TRow Tryz.prog 46 (some ti46) := fun i h => by cases h; exact ⟨Tryz.underlying46, by kernel_rfl, by kernel_rfl, by kernel_rfl, (fun _ h => by cases h), (fun _ => ⟨by kernel_rfl, by kernel_rfl⟩)⟩
theorem tr47 : TRow Tryz.prog 47 (some ti47) := fun i h => by cases h; exact ⟨Tryz.underlying47, by kernel_rfl, by kernel_rfl, by kernel_rfl, (fun _ h => by cases h), (fun h => by cases h)⟩
theorem tr48 : TRow Tryz.prog 48 (some ti48) := fun i h => by cases h; exact ⟨Tryz.underlying48, by kernel_rfl, by kernel_rfl, by kernel_rfl, (fun _ h => by cases h), (fun _ => ⟨by kernel_rfl, by kernel_rfl⟩)⟩
theorem tr49 : TRow Tryz.prog 49 (some ti49) := fun i h => by cases h; exact ⟨Tryz.underlying49, by kernel_rfl, by kernel_rfl, by kernel_rfl, (fun _ h => by cases h), (fun _ => ⟨by kernel_rfl, by kernel_rfl⟩)⟩
theorem tr50 : TRow Tryz.prog 50 (some ti50) := fun i h => by cases h; exact ⟨Tryz.underlying50, by kernel_rfl, by kernel_rfl, by kernel_rfl, (fun _ h => by cases h), (fun h => by cases h)⟩
theorem tr51 : TRow Tryz.prog 51 (some ti51) := fun i h => by cases h; exact ⟨Tryz.underlying51, by kernel_rfl, by kernel_rfl, by kernel_rfl, (fun _ h => by cases h), (fun h => by cases h)⟩
theorem tr52 : TRow Tryz.prog 52 (some ti52) := fun i h => by cases h; exact ⟨Tryz.underlying52, by kernel_rfl, by kernel_rfl, by kernel_rfl, (fun _ h => by cases h), (fun _ => ⟨by kernel_rfl, by kernel_rfl⟩)⟩
theorem tr53 : TRow Tryz.prog 53 (some ti53) := fun i h => by cases h; exact ⟨Tryz.underlying53, by kernel_rfl, by kernel_rfl, by kernel_rfl, (fun _ h => by cases h), (fun h => by cases h)⟩
theorem tr54 : TRow Tryz.prog 54 (some ti54) := fun i h => by cases h; exact ⟨Tryz.underlying54, by kernel_rfl, by kernel_rfl, by kernel_rfl, (fun _ h => by cases h), (fun h => by cases h)⟩
theorem tr56 : TRow Tryz.prog 56 (some ti56) := fun i h => by cases h; exact ⟨Tryz.underlying56, by kernel_rfl, by kernel_rfl, by kernel_rfl, (fun _ h => by cases h), (fun h => by cases h)⟩
theorem tr57 : TRow Tryz.prog 57 (some ti57) := fun i h => by cases h; exact ⟨Tryz.underlying57, by kernel_rfl, by kernel_rfl, by kernel_rfl, (fun _ h => by cases h), (fun h => by cases h)⟩
theorem tr58 : TRow Tryz.prog 58 (some ti58) := fun i h => by cases h; exact ⟨Tryz.underlying58, by kernel_rfl, by kernel_rfl, by kernel_rfl, (fun _ h => by cases h), (fun h => by cases h)⟩
theorem tr60 : TRow Tryz.prog 60 (some ti60) := fun i h => by cases h; exact ⟨Tryz.underlying60, by kernel_rfl, by kernel_rfl, by kernel_rfl, (fun _ h => by cases h), (fun h => by cases h)⟩
theorem tr62 : TRow Tryz.prog 62 (some ti62) := fun i h => by cases h; exact ⟨Tryz.underlying62, by kernel_rfl, by kernel_rfl, by kernel_rfl, (fun _ h => by cases h), (fun h => by cases h)⟩
theorem tr63 : TRow Tryz.prog 63 (some ti63) := fun i h => by cases h; exact ⟨Tryz.underlying63, by kernel_rfl, by kernel_rfl, by kernel_rfl, (fun _ h => by cases h), (fun h => by cases h)⟩
theorem tr64 : TRow Tryz.prog 64 (some ti64) := fun i h => by cases h; exact ⟨Tryz.underlying64, by kernel_rfl, by kernel_rfl, by kernel_rfl, (fun _ h => by cases h), (fun h => by cases h)⟩
theorem tr65 : TRow Tryz.prog 65 (some ti65) := fun i h => by cases h; exact ⟨Tryz.underlying65, by kernel_rfl, by kernel_rfl, by kernel_rfl, (fun _ h => by cases h), (fun _ => ⟨by kernel_rfl, by kernel_rfl⟩)⟩
theorem tr66 : TRow Tryz.prog 66 (some ti66) := fun i h => by cases h; exact ⟨Tryz.underlying66, by kernel_rfl, by kernel_rfl, by kernel_rfl, (fun _ h => by cases h), (fun _ => ⟨by kernel_rfl, by kernel_rfl⟩)⟩
theorem tr67 : TRow Tryz.prog 67 (some ti67) := fun i h => by cases h; exact ⟨Tryz.underlying67, by kernel_rfl, by kernel_rfl, by kernel_rfl, (fun _ h => by cases h), (fun _ => ⟨by kernel_rfl, by kernel_rfl⟩)⟩
theorem tr68 : TRow Tryz.prog 68 (some ti68) := fun i h => by cases h; exact ⟨Tryz.underlying68, by kernel_rfl, by kernel_rfl, by kernel_rfl, (fun _ h => by cases h), (fun _ => ⟨by kernel_rfl, by kernel_rfl⟩)⟩
theorem tr69 : TRow Tryz.prog 69 (some ti69) := fun i h => by cases h; exact ⟨Tryz.underlying69, by kernel_rfl, by kernel_rfl, by kernel_rfl, (fun _ h => by cases h), (fun h => by cases h)⟩
theorem tr70 : TRow Tryz.prog 70 (some ti70) := fun i h => by cases h; exact ⟨Tryz.underlying70, by kernel_rfl, by kernel_rfl, by kernel_rfl, (fun _ h => by cases h), (fun h => by cases h)⟩
theorem tr71 : TRow Tryz.prog 71 (some ti71) := fun i h => by cases h; exact ⟨Tryz.underlying71, by kernel_rfl, by kernel_rfl, by kernel_rfl, (fun _ h => by cases h), (fun h => by cases h)⟩
theorem tr72 : TRow Tryz.prog 72 (some ti72) := fun i h => by cases h; exact ⟨Tryz.underlying72, by kernel_rfl, by kernel_rfl, by kernel_rfl, (fun _ h => by cases h), (fun h => by cases h)⟩
theorem tr73 : TRow Tryz.prog 73 (some ti73) := fun i h => by cases h; exact ⟨Tryz.underlying73, by kernel_rfl, by kernel_rfl, by kernel_rfl, (fun _ h => by cases h), (fun _ => ⟨by kernel_rfl, by kernel_rfl⟩)⟩
theorem tr74 : TRow Tryz.prog 74 (some ti74) := fun i h => by cases h; exact ⟨Tryz.underlying74, by kernel_rfl, by kernel_rfl, by kernel_rfl, (fun _ h => by cases h), (fun _ => ⟨by kernel_rfl, by kernel_rfl⟩)⟩
theorem tr76 : TRow Tryz.prog 76 (some ti76) := fun i h => by cases h; exact ⟨Tryz.underlying76, by kernel_rfl, by kernel_rfl, by kernel_rfl, (fun _ h => by cases h), (fun h => by cases h)⟩
theorem tr77 : TRow Tryz.prog 77 (some ti77) := fun i h => by cases h; exact ⟨Tryz.underlying77, by kernel_rfl, by kernel_rfl, by kernel_rfl, (fun _ h => by cases h), (fun h => by cases h)⟩
theorem tr78 : TRow Tryz.prog 78 (some ti78) := fun i h => by cases h; exact ⟨Tryz.underlying78, by kernel_rfl, by kernel_rfl, by kernel_rfl, (fun _ h => by cases h), (fun h => by cases h)⟩
theorem tr79 : TRow Tryz.prog 79 (some ti79) := fun i h => by cases h; exact ⟨Tryz.underlying79, by kernel_rfl, by kernel_rfl, by kernel_rfl, (fun _ h => by cases h), (fun h => by cases h)⟩
theorem tr80 : TRow Tryz.prog 80 (some ti80) := fun i h => by cases h; exact ⟨Tryz.underlying80, by kernel_rfl, by kernel_rfl, by kernel_rfl, (fun _ h => by cases h; exact int_law Tryz.underlying80), (fun h => by cases h)⟩
theorem tr81 : TRow Tryz.prog 81 (some ti81) := fun i h => by cases h; exact ⟨Tryz.underlying81, by kernel_rfl, by kernel_rfl, by kernel_rfl, (fun _ h => by cases h), (fun _ => ⟨by kernel_rfl, by kernel_rfl⟩)⟩
theorem tr82 : TRow Tryz.prog 82 (some ti82) := fun i h => by cases h; exact ⟨Tryz.underlying82, by kernel_rfl, by kernel_rfl, by kernel_rfl, (fun _ h => by cases h), (fun _ => ⟨by kernel_rfl, by kernel_rfl⟩)⟩
theorem tr83 : TRow Tryz.prog 83 (some ti83) := fun i h => by cases h; exact ⟨Tryz.underlying83, by kernel_rfl, by kernel_rfl, by kernel_rfl, (fun _ h => by cases h), (fun _ => ⟨by kernel_rfl, by kernel_rfl⟩)⟩
theorem tr84 : TRow Tryz.prog 84 (some ti84) := fun i h => by cases h; exact ⟨Tryz.underlying84, by kernel_rfl, by kernel_rfl, by kernel_rfl, (fun _ h => by cases h), (fun h => by cases h)⟩
theorem tr85 : TRow Tryz.prog 85 (some ti85) := fun i h => by cases h; exact ⟨Tryz.underlying85, by kernel_rfl, by kernel_rfl, by kernel_rfl, (fun _ h => by cases h), (fun h => by cases h)⟩
theorem tr86 : TRow Tryz.prog 86 (some ti86) := fun i h => by cases h; exact ⟨Tryz.underlying86, by kernel_rfl, by kernel_rfl, by kernel_rfl, (fun _ h => by cases h), (fun h => by cases h)⟩
theorem tr87 : TRow Tryz.prog 87 (some ti87) := fun i h => by cases h; exact ⟨Tryz.underlying87, by kernel_rfl, by kernel_rfl, by kernel_rfl, (fun _ h => by cases h), (fun h => by cases h)⟩
theorem tr88 : TRow Tryz.prog 88 (some ti88) := fun i h => by cases h; exact ⟨Tryz.underlying88, by kernel_rfl, by kernel_rfl, by kernel_rfl, (fun _ h => by cases h), (fun h => by cases h)⟩
theorem tr89 : TRow Tryz.prog 89 (some ti89) := fun i h => by cases h; exact ⟨Tryz.underlying89, by kernel_rfl, by kernel_rfl, by kernel_rfl, (fun _ h => by cases h), (fun _ => ⟨by kernel_rfl, by kernel_rfl⟩)⟩
theorem tr90 : TRow Tryz.prog 90 (some ti90) := fun i h => by cases h; exact ⟨Tryz.underlying90, by kernel_rfl, by kernel_rfl, by kernel_rfl, (fun _ h => by cases h), (fun _ => ⟨by kernel_rfl, by kernel_rfl⟩)⟩
theorem tr91 : TRow Tryz.prog 91 (some ti91) := fun i h => by cases h; exact ⟨Tryz.underlying91, by kernel_rfl, by kernel_rfl, by kernel_rfl, (fun _ h => by cases h), (fun h => by cases h)⟩
theorem tr92 : TRow Tryz.prog 92 (some ti92) := fun i h => by cases h; exact ⟨Tryz.underlying92, by kernel_rfl, by kernel_rfl, by kernel_rfl, (fun _ h => by cases h), (fun h => by cases h)⟩
theorem tr93 : TRow Tryz.prog 93 (some ti93) := fun i h => by cases h; exact ⟨Tryz.underlying93, by kernel_rfl, by kernel_rfl, by kernel_rfl, (fun _ h => by cases h), (fun h => by cases h)⟩
theorem tr94 : TRow Tryz.prog 94 (some ti94) := fun i h => by cases h; exact ⟨Tryz.underlying94, by kernel_rfl, by kernel_rfl, by kernel_rfl, (fun _ h => by cases h), (fun h => by cases h)⟩
theorem tr95 : TRow Tryz.prog 95 (some ti95) := fun i h => by cases h; exact ⟨Tryz.underlying95, by kernel_rfl, by kernel_rfl, by kernel_rfl, (fun _ h => by cases h), (fun h => by cases h)⟩
theorem tr96 : TRow Tryz.prog 96 (some ti96) := fun i h => by cases h; exact ⟨Tryz.underlying96, by kernel_rfl, by kernel_rfl, by kernel_rfl, (fun _ h => by cases h), (fun h => by cases h)⟩
theorem tr98 : TRow Tryz.prog 98 (some ti98) := fun i h => by cases h; exact ⟨Tryz.underlying98, by kernel_rfl, by kernel_rfl, by kernel_rfl, (fun _ h => by cases h), (fun h => by cases h)⟩
theorem tr99 : TRow Tryz.prog 99 (some ti99) := fun i h => by cases h; exact ⟨Tryz.underlying99, by kernel_rfl, by kernel_rfl, by kernel_rfl, (fun _ h => by cases h), (fun h => by cases h)⟩
theorem tr100 : TRow Tryz.prog 100 (some ti100) := fun i h => by cases h; exact ⟨Tryz.underlying100, by kernel_rfl, by kernel_rfl, by kernel_rfl, (fun _ h => by cases h), (fun h => by cases h)⟩
theorem tr101 : TRow Tryz.prog 101 (some ti101) := fun i h => by cases h; exact ⟨Tryz.underlying101, by kernel_rfl, by kernel_rfl, by kernel_rfl, (fun _ h => by cases h), (fun h => by cases h)⟩
theorem tr102 : TRow Tryz.prog 102 (some ti102) := fun i h => by cases h; exact ⟨Tryz.underlying102, by kernel_rfl, by kernel_rfl, by kernel_rfl, (fun _ h => by cases h), (fun h => by cases h)⟩
theorem tr103 : TRow Tryz.prog 103 (some ti103) := fun i h => by cases h; exact ⟨Tryz.underlying103, by kernel_rfl, by kernel_rfl, by kernel_rfl, (fun _ h => by cases h), (fun h => by cases h)⟩
theorem tr104 : TRow Tryz.prog 104 (some ti104) := fun i h => by cases h; exact ⟨Tryz.underlying104, by kernel_rfl, by kernel_rfl, by kernel_rfl, (fun _ h => by cases h), (fun h => by cases h)⟩
theorem tr105 : TRow Tryz.prog 105 (some ti105) := fun i h => by cases h; exact ⟨Tryz.underlying105, by kernel_rfl, by kernel_rfl, by kernel_rfl, (fun _ h => by cases h), (fun h => by cases h)⟩
theorem tr106 : TRow Tryz.prog 106 (some ti106) := fun i h => by cases h; exact ⟨Tryz.underlying106, by kernel_rfl, by kernel_rfl, by kernel_rfl, (fun _ h => by cases h), (fun h => by cases h)⟩
theorem tr107 : TRow Tryz.prog 107 (some ti107) := fun i h => by cases h; exact ⟨Tryz.underlying107, by kernel_rfl, by kernel_rfl, by kernel_rfl, (fun _ h => by cases h), (fun h => by cases h)⟩
theorem tr108 : TRow Tryz.prog 108 (some ti108) := fun i h => by cases h; exact ⟨Tryz.underlying108, by kernel_rfl, by kernel_rfl, by kernel_rfl, (fun _ h => by cases h), (fun h => by cases h)⟩
theorem tr109 : TRow Tryz.prog 109 (some ti109) := fun i h => by cases h; exact ⟨Tryz.underlying109, by kernel_rfl, by kernel_rfl, by kernel_rfl, (fun _ h => by cases h), (fun h => by cases h)⟩
theorem tr110 : TRow Tryz.prog 110 (some ti110) := fun i h => by cases h; exact ⟨Tryz.underlying110, by kernel_rfl, by kernel_rfl, by kernel_rfl, (fun _ h => by cases h), (fun h => by cases h)⟩
theorem tr111 : TRow Tryz.prog 111 (some ti111) := fun i h => by cases h; exact ⟨Tryz.underlying111, by kernel_rfl, by kernel_rfl, by kernel_rfl, (fun _ h => by cases h), (fun _ => ⟨by kernel_rfl, by kernel_rfl⟩)⟩
theorem tr112 : TRow Tryz.prog 112 (some ti112) := fun i h => by cases h; exact ⟨Tryz.underlying112, by kernel_rfl, by kernel_rfl, by kernel_rfl, (fun _ h => by cases h), (fun _ => ⟨by kernel_rfl, by kernel_rfl⟩)⟩
theorem tr113 : TRow Tryz.prog 113 (some ti113) := fun i h => by cases h; exact ⟨Tryz.underlying113, by kernel_rfl, by kernel_rfl, by kernel_rfl, (fun _ h => by cases h), (fun h => by cases h)⟩
theorem tr115 : TRow Tryz.prog 115 (some ti115) := fun i h => by cases h; exact ⟨Tryz.underlying115, by kernel_rfl, by kernel_rfl, by kernel_rfl, (fun _ h => by cases h), (fun h => by cases h)⟩
theorem tr116 : TRow Tryz.prog 116 (some ti116) := fun i h => by cases h; exact ⟨Tryz.underlying116, by kernel_rfl, by kernel_rfl, by kernel_rfl, (fun _ h => by cases h), (fun _ => ⟨by kernel_rfl, by kernel_rfl⟩)⟩
theorem tr117 : TRow Tryz.prog 117 (some ti117) := fun i h => by cases h; exact ⟨Tryz.underlying117, by kernel_rfl, by kernel_rfl, by kernel_rfl, (fun _ h => by cases h), (fun _ => ⟨by kernel_rfl, by kernel_rfl⟩)⟩
theorem tr118 : TRow Tryz.prog 118 (some ti118) := fun i h => by cases h; exact ⟨Tryz.underlying118, by kernel_rfl, by kernel_rfl, by kernel_rfl, (fun _ h => by cases h), (fun h => by cases h)⟩
theorem tr119 : TRow Tryz.prog 119 (some ti119) := fun i h => by cases h; exact ⟨Tryz.underlying119, by kernel_rfl, by kernel_rfl, by kernel_rfl, (fun _ h => by cases h), (fun h => by cases h)⟩
theorem tr120 : TRow Tryz.prog 120 (some ti120) := fun i h => by cases h; exact ⟨Tryz.underlying120, by kernel_rfl, by kernel_rfl, by kernel_rfl, (fun _ h => by cases h), (fun h => by cases h)⟩
theorem tr121 : TRow Tryz.prog 121 (some ti121) := fun i h => by cases h; exact ⟨Tryz.underlying121, by kernel_rfl, by kernel_rfl, by kernel_rfl, (fun _ h => by cases h), (fun h => by cases h)⟩
theorem tr122 : TRow Tryz.prog 122 (some ti122) := fun i h => by cases h; exact ⟨Tryz.underlying122, by kernel_rfl, by kernel_rfl, by kernel_rfl, (fun _ h => by cases h), (fun h => by cases h)⟩
theorem tr123 : TRow Tryz.prog 123 (some ti123) := fun i h => by cases h; exact ⟨Tryz.underlying123, by kernel_rfl, by kernel_rfl, by kernel_rfl, (fun _ h => by cases h), (fun h => by cases h)⟩
theorem tr124 : TRow Tryz.prog 124 (some ti124) := fun i h => by cases h; exact ⟨Tryz.underlying124, by kernel_rfl, by kernel_rfl, by kernel_rfl, (fun _ h => by cases h), (fun h => by cases h)⟩
theorem tr125 : TRow Tryz.prog 125 (some ti125) := fun i h => by cases h; exact ⟨Tryz.underlying125, by kernel_rfl, by kernel_rfl, by kernel_rfl, (fun _ h => by cases h), (fun h => by cases h)⟩
theorem tr126 : TRow Tryz.prog 126 (some ti126) := fun i h => by cases h; exact ⟨Tryz.underlying126, by kernel_rfl, by kernel_rfl, by kernel_rfl, (fun _ h => by cases h), (fun h => by cases h)⟩
theorem tr127 : TRow Tryz.prog 127 (some ti127) := fun i h => by cases h; exact ⟨Tryz.underlying127, by kernel_rfl, by kernel_rfl, by kernel_rfl, (fun _ h => by cases h), (fun h => by cases h)⟩
theorem tr128 : TRow Tryz.prog 128 (some ti128) := fun i h => by cases h; exact ⟨Tryz.underlying128, by kernel_rfl, by kernel_rfl, by kernel_rfl, (fun _ h => by cases h), (fun _ => ⟨by kernel_rfl, by kernel_rfl⟩)⟩
theorem tr129 : TRow Tryz.prog 129 (some ti129) := fun i h => by cases h; exact ⟨Tryz.underlying129, by kernel_rfl, by kernel_rfl, by kernel_rfl, (fun _ h => by cases h), (fun _ => ⟨by kernel_rfl, by kernel_rfl⟩)⟩
theorem tr131 : TRow Tryz.prog 131 (some ti131) := fun i h => by cases h; exact ⟨Tryz.underlying131, by kernel_rfl, by kernel_rfl, by kernel_rfl, (fun _ h => by cases h), (fun h => by cases h)⟩
theorem tr133 : TRow Tryz.prog 133 (some ti133) := fun i h => by cases h; exact ⟨Tryz.underlying133, by kernel_rfl, by kernel_rfl, by kernel_rfl, (fun _ h => by cases h), (fun h => by cases h)⟩
theorem tr135 : TRow Tryz.prog 135 (some ti135) := fun i h => by cases h; exact ⟨Tryz.underlying135, by kernel_rfl, by kernel_rfl, by kernel_rfl, (fun _ h => by cases h), (fun h => by cases h)⟩
theorem tr136 : TRow Tryz.prog 136 (some ti136) := fun i h => by cases h; exact ⟨Tryz.underlying136, by kernel_rfl, by kernel_rfl, by kernel_rfl, (fun _ h => by cases h), (fun h => by cases h)⟩
theorem tr137 : TRow Tryz.prog 137 (some ti137) := fun i h => by cases h; exact ⟨Tryz.underlying137, by kernel_rfl, by kernel_rfl, by kernel_rfl, (fun _ h => by cases h), (fun h => by cases h)⟩
theorem tr138 : TRow Tryz.prog 138 (some ti138) := fun i h => by cases h; exact ⟨Tryz.underlying138, by kernel_rfl, by kernel_rfl, by kernel_rfl, (fun _ h => by cases h), (fun h => by cases h)⟩
theorem tr139 : TRow Tryz.prog 139 (some ti139) := fun i h => by cases h; exact ⟨Tryz.underlying139, by kernel_rfl, by kernel_rfl, by kernel_rfl, (fun _ h => by cases h), (fun h => by cases h)⟩
theorem tr140 : TRow Tryz.prog 140 (some ti140) := fun i h => by cases h; exact ⟨Tryz.underlying140, by kernel_rfl, by kernel_rfl, by kernel_rfl, (fun _ h => by cases h), (fun h => by cases h)⟩
theorem tr142 : TRow Tryz.prog 142 (some ti142) := fun i h => by cases h; exact ⟨Tryz.underlying142, by kernel_rfl, by kernel_rfl, by kernel_rfl, (fun _ h => by cases h), (fun h => by cases h)⟩
theorem tr143 : TRow Tryz.prog 143 (some ti143) := fun i h => by cases h; exact ⟨Tryz.underlying143, by kernel_rfl, by kernel_rfl, by kernel_rfl, (fun _ h => by cases h), (fun h => by cases h)⟩
theorem tr144 : TRow Tryz.prog 144 (some ti144) := fun i h => by cases h; exact ⟨Tryz.underlying144, by kernel_rfl, by kernel_rfl, by kernel_rfl, (fun _ h => by cases h), (fun h => by cases h)⟩
theorem tr145 : TRow Tryz.prog 145 (some ti145) := fun i h => by cases h; exact ⟨Tryz.underlying145, by kernel_rfl, by kernel_rfl, by kernel_rfl, (fun _ h => by cases h), (fun h => by cases h)⟩
theorem tr146 : TRow Tryz.prog 146 (some ti146) := fun i h => by cases h; exact ⟨Tryz.underlying146, by kernel_rfl, by kernel_rfl, by kernel_rfl, (fun _ h => by cases h), (fun h => by cases h)⟩
theorem tr147 : TRow Tryz.prog 147 (some ti147) := fun i h => by cases h; exact ⟨Tryz.underlying147, by kernel_rfl, by kernel_rfl, by kernel_rfl, (fun _ h => by cases h), (fun h => by cases h)⟩
theorem tr148 : TRow Tryz.prog 148 (some ti148) := fun i h => by cases h; exact ⟨Tryz.underlying148, by kernel_rfl, by kernel_rfl, by kernel_rfl, (fun _ h => by cases h), (fun h => by cases h)⟩
theorem tr149 : TRow Tryz.prog 149 (some ti149) := fun i h => by cases h; exact ⟨Tryz.underlying149, by kernel_rfl, by kernel_rfl, by kernel_rfl, (fun _ h => by cases h), (fun h => by cases h)⟩
theorem tr150 : TRow Tryz.prog 150 (some ti150) := fun i h => by cases h; exact ⟨Tryz.underlying150, by kernel_rfl, by kernel_rfl, by kernel_rfl, (fun _ h => by cases h), (fun _ => ⟨by kernel_rfl, by kernel_rfl⟩)⟩
theorem tr151 : TRow Tryz.prog 151 (some ti151) := fun i h => by cases h; exact ⟨Tryz.underlying151, by kernel_rfl, by kernel_rfl, by kernel_rfl, (fun _ h => by cases h), (fun _ => ⟨by kernel_rfl, by kernel_rfl⟩)⟩
theorem tr152 : TRow Tryz.prog 152 (some ti152) := fun i h => by cases h; exact ⟨Tryz.underlying152, by kernel_rfl, by kernel_rfl, by kernel_rfl, (fun _ h => by cases h), (fun h => by cases h)⟩
theorem tr153 : TRow Tryz.prog 153 (some ti153) := fun i h => by cases h; exact ⟨Tryz.underlying153, by kernel_rfl, by kernel_rfl, by kernel_rfl, (fun _ h => by cases h), (fun h => by cases h)⟩
theorem tr154 : TRow Tryz.prog 154 (some ti154) := fun i h => by cases h; exact ⟨Tryz.underlying154, by kernel_rfl, by kernel_rfl, by kernel_rfl, (fun _ h => by cases h), (fun h => by cases h)⟩
theorem tr155 : TRow Tryz.prog 155 (some ti155) := fun i h => by cases h; exact ⟨Tryz.underlying155, by kernel_rfl, by kernel_rfl, by kernel_rfl, (fun _ h => by cases h), (fun h => by cases h)⟩
theorem tr156 : TRow Tryz.prog 156 (some ti156) := fun i h => by cases h; exact ⟨Tryz.underlying156, by kernel_rfl, by kernel_rfl, by kernel_rfl, (fun _ h => by cases h), (fun h => by cases h)⟩
theorem tr157 : TRow Tryz.prog 157 (some ti157) := fun i h => by cases h; exact ⟨Tryz.underlying157, by kernel_rfl, by kernel_rfl, by kernel_rfl, (fun _ h => by cases h), (fun _ => ⟨by kernel_rfl, by kernel_rfl⟩)⟩
theorem tr158 : TRow Tryz.prog 158 (some ti158) := fun i h => by cases h; exact ⟨Tryz.underlying158, by kernel_rfl, by kernel_rfl, by kernel_rfl, (fun _ h => by cases h), (fun _ => ⟨by kernel_rfl, by kernel_rfl⟩)⟩
theorem tr159 : TRow Tryz.prog 159 (some ti159) := fun i h => by cases h; exact ⟨Tryz.underlying159, by kernel_rfl, by kernel_rfl, by kernel_rfl, (fun _ h => by cases h), (fun h => by cases h)⟩
theorem tr160 : TRow Tryz.prog 160 (some ti160) := fun i h => by cases h; exact ⟨Tryz.underlying160, by kernel_rfl, by kernel_rfl, by kernel_rfl, (fun _ h => by cases h), (fun h => by cases h)⟩
theorem tr161 : TRow Tryz.prog 161 (some ti161) := fun i h => by cases h; exact ⟨Tryz.underlying161, by kernel_rfl, by kernel_rfl, by kernel_rfl, (fun _ h => by cases h), (fun h => by cases h)⟩
theorem tr162 : TRow Tryz.prog 162 (some ti162) := fun i h => by cases h; exact ⟨Tryz.underlying162, by kernel_rfl, by kernel_rfl, by kernel_rfl, (fun _ h => by cases h), (fun h => by cases h)⟩
theorem tr163 : TRow Tryz.prog 163 (some ti163) := fun i h => by cases h; exact ⟨Tryz.underlying163, by kernel_rfl, by kernel_rfl, by kernel_rfl, (fun _ h => by cases h), (fun h => by cases h)⟩
theorem tr164 : TRow Tryz.prog 164 (some ti164) := fun i h => by cases h; exact ⟨Tryz.underlying164, by kernel_rfl, by kernel_rfl, by kernel_rfl, (fun _ h => by cases h), (fun h => by cases h)⟩
theorem tr165 : TRow Tryz.prog 165 (some ti165) := fun i h => by cases h; exact ⟨Tryz.underlying165, by kernel_rfl, by kernel_rfl, by kernel_rfl, (fun _ h => by cases h), (fun h => by cases h)⟩
theorem tr166 : TRow Tryz.prog 166 (some ti166) := fun i h => by cases h; exact ⟨Tryz.underlying166, by kernel_rfl, by kernel_rfl, by kernel_rfl, (fun _ h => by cases h), (fun h => by cases h)⟩
theorem tr167 : TRow Tryz.prog 167 (some ti167) := fun i h => by cases h; exact ⟨Tryz.underlying167, by kernel_rfl, by kernel_rfl, by kernel_rfl, (fun _ h => by cases h), (fun h => by cases h)⟩
theorem tr168 : TRow Tryz.prog 168 (some ti168) := fun i h => by cases h; exact ⟨Tryz.underlying168, by kernel_rfl, by kernel_rfl, by kernel_rfl, (fun _ h => by cases h), (fun h => by cases h)⟩
theorem tr169 : TRow Tryz.prog 169 (some ti169) := fun i h => by cases h; exact ⟨Tryz.underlying169, by kernel_rfl, by kernel_rfl, by kernel_rfl, (fun _ h => by cases h), (fun h => by cases h)⟩
theorem tr170 : TRow Tryz.prog 170 (some ti170) := fun i h => by cases h; exact ⟨Tryz.underlying170, by kernel_rfl, by kernel_rfl, by kernel_rfl, (fun _ h => by cases h), (fun h => by cases h)⟩
theorem tr171 : TRow Tryz.prog 171 (some ti171) := fun i h => by cases h; exact ⟨Tryz.underlying171, by kernel_rfl, by kernel_rfl, by kernel_rfl, (fun _ h => by cases h), (fun h => by cases h)⟩
theorem tr173 : TRow Tryz.prog 173 (some ti173) := fun i h => by cases h; exact ⟨Tryz.underlying173, by kernel_rfl, by kernel_rfl, by kernel_rfl, (fun _ h => by cases h), (fun h => by cases h)⟩
theorem tr175 : TRow Tryz.prog 175 (some ti175) := fun i h => by cases h; exact ⟨Tryz.underlying175, by kernel_rfl, by kernel_rfl, by kernel_rfl, (fun _ h => by cases h), (fun h => by cases h)⟩
theorem tr176 : TRow Tryz.prog 176 (some ti176) := fun i h => by cases h; exact ⟨Tryz.underlying176, by kernel_rfl, by kernel_rfl, by kernel_rfl, (fun _ h => by cases h), (fun h => by cases h)⟩
theorem tr177 : TRow Tryz.prog 177 (some ti177) := fun i h => by cases h; exact ⟨Tryz.underlying177, by kernel_rfl, by kernel_rfl, by kernel_rfl, (fun _ h => by cases h), (fun _ => ⟨by kernel_rfl, by kernel_rfl⟩)⟩
theorem tr178 : TRow Tryz.prog 178 (some ti178) := fun i h => by cases h; exact ⟨Tryz.underlying178, by kernel_rfl, by kernel_rfl, by kernel_rfl, (fun _ h => by cases h), (fun _ => ⟨by kernel_rfl, by kernel_rfl⟩)⟩
theorem tr179 : TRow Tryz.prog 179 (some ti179) := fun i h => by cases h; exact ⟨Tryz.underlying179, by kernel_rfl, by kernel_rfl, by kernel_rfl, (fun _ h => by cases h), (fun h => by cases h)⟩
theorem tr180 : TRow Tryz.prog 180 (some ti180) := fun i h => by cases h; exact ⟨Tryz.underlying180, by kernel_rfl, by kernel_rfl, by kernel_rfl, (fun _ h => by cases h), (fun h => by cases h)⟩
theorem tr181 : TRow Tryz.prog 181 (some ti181) := fun i h => by cases h; exact ⟨Tryz.underlying181, by kernel_rfl, by kernel_rfl, by kernel_rfl, (fun _ h => by cases h), (fun h => by cases h)⟩
theorem tr182 : TRow Tryz.prog 182 (some ti182) := fun i h => by cases h; exact ⟨Tryz.underlying182, by kernel_rfl, by kernel_rfl, by kernel_rfl, (fun _ h => by cases h), (fun h => by cases h)⟩
theorem tr183 : TRow Tryz.prog 183 (some ti183) := fun i h => by cases h; exact ⟨Tryz.underlying183, by kernel_rfl, by kernel_rfl, by kernel_rfl, (fun _ h => by cases h), (fun h => by cases h)⟩
theorem tr184 : TRow Tryz.prog 184 (some ti184) := fun i h => by cases h; exact ⟨Tryz.underlying184, by kernel_rfl, by kernel_rfl, by kernel_rfl, (fun _ h => by cases h), (fun h => by cases h)⟩
theorem tr185 : TRow Tryz.prog 185 (some ti185) := fun i h => by cases h; exact ⟨Tryz.underlying185, by kernel_rfl, by kernel_rfl, by kernel_rfl, (fun _ h => by cases h), (fun h => by cases h)⟩
theorem tr186 : TRow Tryz.prog 186 (some ti186) := fun i h => by cases h; exact ⟨Tryz.underlying186, by kernel_rfl, by kernel_rfl, by kernel_rfl, (fun _ h => by cases h; exact int_law Tryz.underlying186), (fun h => by cases h)⟩
theorem tr187 : TRow Tryz.prog 187 (some ti187) := fun i h => by cases h; exact ⟨Tryz.underlying187, by kernel_rfl, by kernel_rfl, by kernel_rfl, (fun _ h => by cases h), (fun h => by cases h)⟩
theorem tr188 : TRow Tryz.prog 188 (some ti188) := fun i h => by cases h; exact ⟨Tryz.underlying188, by kernel_rfl, by kernel_rfl, by kernel_rfl, (fun _ h => by cases h), (fun h => by cases h)⟩
theorem tr189 : TRow Tryz.prog 189 (some ti189) := fun i h => by cases h; exact ⟨Tryz.underlying189, by kernel_rfl, by kernel_rfl, by kernel_rfl, (fun _ h => by cases h), (fun h => by cases h)⟩
theorem tr190 : TRow Tryz.prog 190 (some ti190) := fun i h => by cases h; exact ⟨Tryz.underlying190, by kernel_rfl, by kernel_rfl, by kernel_rfl, (fun _ h => by cases h), (fun _ => ⟨by kernel_rfl, by kernel_rfl⟩)⟩
theorem tr191 : TRow Tryz.prog 191 (some ti191) := fun i h => by cases h; exact ⟨Tryz.underlying191, by kernel_rfl, by kernel_rfl, by kernel_rfl, (fun _ h => by cases h), (fun _ => ⟨by kernel_rfl, by kernel_rfl⟩)⟩
theorem tr192 : TRow Tryz.prog 192 (some ti192) := fun i h => by cases h; exact ⟨Tryz.underlying192, by kernel_rfl, by kernel_rfl, by kernel_rfl, (fun _ h => by cases h), (fun h => by cases h)⟩
theorem tr193 : TRow Tryz.prog 193 (some ti193) := fun i h => by cases h; exact ⟨Tryz.underlying193, by kernel_rfl, by kernel_rfl, by kernel_rfl, (fun _ h => by cases h), (fun h => by cases h)⟩
theorem tr194 : TRow Tryz.prog 194 (some ti194) := fun i h => by cases h; exact ⟨Tryz.underlying194, by kernel_rfl, by kernel_rfl, by kernel_rfl, (fun _ h => by cases h), (fun h => by cases h)⟩
theorem tr195 : TRow Tryz.prog 195 (some ti195) := fun i h => by cases h; exact ⟨Tryz.underlying195, by kernel_rfl, by kernel_rfl, by kernel_rfl, (fun _ h => by cases h), (fun h => by cases h)⟩
theorem tr196 : TRow Tryz.prog 196 (some ti196) := fun i h => by cases h; exact ⟨Tryz.underlying196, by kernel_rfl, by kernel_rfl, by kernel_rfl, (fun _ h => by cases h), (fun h => by cases h)⟩
theorem tr197 : TRow Tryz.prog 197 (some ti197) := fun i h => by cases h; exact ⟨Tryz.underlying197, by kernel_rfl, by kernel_rfl, by kernel_rfl, (fun _ h => by cases h), (fun h => by cases h)⟩
theorem tr198 : TRow Tryz.prog 198 (some ti198) := fun i h => by cases h; exact ⟨Tryz.underlying198, by kernel_rfl, by kernel_rfl, by kernel_rfl, (fun _ h => by cases h), (fun h => by cases h)⟩
theorem tr200 : TRow Tryz.prog 200 (some ti200) := fun i h => by cases h; exact ⟨Tryz.underlying200, by kernel_rfl, by kernel_rfl, by kernel_rfl, (fun _ h => by cases h), (fun h => by cases h)⟩
theorem tr201 : TRow Tryz.prog 201 (some ti201) := fun i h => by cases h; exact ⟨Tryz.underlying201, by kernel_rfl, by kernel_rfl, by kernel_rfl, (fun _ h => by cases h), (fun h => by cases h)⟩
theorem tr202 : TRow Tryz.prog 202 (some ti202) := fun i h => by cases h; exact ⟨Tryz.underlying202, by kernel_rfl, by kernel_rfl, by kernel_rfl, (fun _ h => by cases h), (fun h => by cases h)⟩
theorem tr203 : TRow Tryz.prog 203 (some ti203) := fun i h => by cases h; exact ⟨Tryz.underlying203, by kernel_rfl, by kernel_rfl, by kernel_rfl, (fun _ h => by cases h), (fun h => by cases h)⟩
theorem tr204 : TRow Tryz.prog 204 (some ti204) := fun i h => by cases h; exact ⟨Tryz.underlying204, by kernel_rfl, by kernel_rfl, by kernel_rfl, (fun _ h => by cases h), (fun h => by cases h)⟩
theorem tr205 : TRow Tryz.prog 205 (some ti205) := fun i h => by cases h; exact ⟨Tryz.underlying205, by kernel_rfl, by kernel_rfl, by kernel_rfl, (fun _ h => by cases h), (fun h => by cases h)⟩
theorem tr206 : TRow Tryz.prog 206 (some ti206) := fun i h => by cases h; exact ⟨Tryz.underlying206, by kernel_rfl, by kernel_rfl, by kernel_rfl, (fun _ h => by cases h), (fun h => by cases h)⟩
theorem tr207 : TRow Tryz.prog 207 (some ti207) := fun i h => by cases h; exact ⟨Tryz.underlying207, by kernel_rfl, by kernel_rfl, by kernel_rfl, (fun _ h => by cases h), (fun h => by cases h)⟩
theorem tr208 : TRow Tryz.prog 208 (some ti208) := fun i h => by cases h; exact ⟨Tryz.underlying208, by kernel_rfl, by kernel_rfl, by kernel_rfl, (fun _ h => by cases h), (fun h => by cases h)⟩
theorem tr209 : TRow Tryz.prog 209 (some ti209) := fun i h => by cases h; exact ⟨Tryz.underlying209, by kernel_rfl, by kernel_rfl, by kernel_rfl, (fun _ h => by cases h), (fun h => by cases h)⟩
theorem tr210 : TRow Tryz.prog 210 (some ti210) := fun i h => by cases h; exact ⟨Tryz.underlying210, by kernel_rfl, by kernel_rfl, by kernel_rfl, (fun _ h => by cases h), (fun h => by cases h)⟩
theorem tr211 : TRow Tryz.prog 211 (some ti211) := fun i h => by cases h; exact ⟨Tryz.underlying211, by kernel_rfl, by kernel_rfl, by kernel_rfl, (fun _ h => by cases h), (fun h => by cases h)⟩
theorem tr212 : TRow Tryz.prog 212 (some ti212) := fun i h => by cases h; exact ⟨Tryz.underlying212, by kernel_rfl, by kernel_rfl, by kernel_rfl, (fun _ h => by cases h), (fun h => by cases h)⟩
theorem tr213 : TRow Tryz.prog 213 (some ti213) := fun i h => by cases h; exact ⟨Tryz.underlying213, by kernel_rfl, by kernel_rfl, by kernel_rfl, (fun _ h => by cases h), (fun h => by cases h)⟩
theorem tr214 : TRow Tryz.prog 214 (some ti214) := fun i h => by cases h; exact ⟨Tryz.underlying214, by kernel_rfl, by kernel_rfl, by kernel_rfl, (fun _ h => by cases h), (fun h => by cases h)⟩
theorem tr215 : TRow Tryz.prog 215 (some ti215) := fun i h => by cases h; exact ⟨Tryz.underlying215, by kernel_rfl, by kernel_rfl, by kernel_rfl, (fun _ h => by cases h), (fun _ => ⟨by kernel_rfl, by kernel_rfl⟩)⟩
theorem tr216 : TRow Tryz.prog 216 (some ti216) := fun i h => by cases h; exact ⟨Tryz.underlying216, by kernel_rfl, by kernel_rfl, by kernel_rfl, (fun _ h => by cases h), (fun _ => ⟨by kernel_rfl, by kernel_rfl⟩)⟩
theorem tr218 : TRow Tryz.prog 218 (some ti218) := fun i h => by cases h; exact ⟨Tryz.underlying218, by kernel_rfl, by kernel_rfl, by kernel_rfl, (fun _ h => by cases h), (fun h => by cases h)⟩
theorem tr219 : TRow Tryz.prog 219 (some ti219) := fun i h => by cases h; exact ⟨Tryz.underlying219, by kernel_rfl, by kernel_rfl, by kernel_rfl, (fun _ h => by cases h), (fun h => by cases h)⟩
theorem tr220 : TRow Tryz.prog 220 (some ti220) := fun i h => by cases h; exact ⟨Tryz.underlying220, by kernel_rfl, by kernel_rfl, by kernel_rfl, (fun _ h => by cases h), (fun h => by cases h)⟩
theorem tr221 : TRow Tryz.prog 221 (some ti221) := fun i h => by cases h; exact ⟨Tryz.underlying221, by kernel_rfl, by kernel_rfl, by kernel_rfl, (fun _ h => by cases h), (fun h => by cases h)⟩
theorem tr222 : TRow Tryz.prog 222 (some ti222) := fun i h => by cases h; exact ⟨Tryz.underlying222, by kernel_rfl, by kernel_rfl, by kernel_rfl, (fun _ h => by cases h; exact int_law Tryz.underlying222), (fun h => by cases h)⟩
theorem tr224 : TRow Tryz.prog 224 (some ti224) := fun i h => by cases h; exact ⟨Tryz.underlying224, by kernel_rfl, by kernel_rfl, by kernel_rfl, (fun _ h => by cases h), (fun h => by cases h)⟩
theorem tr225 : TRow Tryz.prog 225 (some ti225) := fun i h => by cases h; exact ⟨Tryz.underlying225, by kernel_rfl, by kernel_rfl, by kernel_rfl, (fun _ h => by cases h), (fun h => by cases h)⟩
theorem tr226 : TRow Tryz.prog 226 (some ti226) := fun i h => by cases h; exact ⟨Tryz.underlying226, by kernel_rfl, by kernel_rfl, by kernel_rfl, (fun _ h => by cases h), (fun h => by cases h)⟩
theorem tr227 : TRow Tryz.prog 227 (some ti227) := fun i h => by cases h; exact ⟨Tryz.underlying227, by kernel_rfl, by kernel_rfl, by kernel_rfl, (fun _ h => by cases h), (fun h => by cases h)⟩
theorem tr228 : TRow Tryz.prog 228 (some ti228) := fun i h => by cases h; exact ⟨Tryz.underlying228, by kernel_rfl, by kernel_rfl, by kernel_rfl, (fun _ h => by cases h), (fun h => by cases h)⟩
theorem tr229 : TRow Tryz.prog 229 (some ti229) := fun i h => by cases h; exact ⟨Tryz.underlying229, by kernel_rfl, by kernel_rfl, by kernel_rfl, (fun _ h => by cases h), (fun h => by cases h)⟩
theorem tr230 : TRow Tryz.prog 230 (some ti230) := fun i h => by cases h; exact ⟨Tryz.underlying230, by kernel_rfl, by kernel_rfl, by kernel_rfl, (fun _ h => by cases h; exact int_law Tryz.underlying230), (fun h => by cases h)⟩
theorem tr231 : TRow Tryz.prog 231 (some ti231) := fun i h => by cases h; exact ⟨Tryz.underlying231, by kernel_rfl, by kernel_rfl, by kernel_rfl, (fun _ h => by cases h), (fun h => by cases h)⟩
theorem tr232 : TRow Tryz.prog 232 (some ti232) := fun i h => by cases h; exact ⟨Tryz.underlying232, by kernel_rfl, by kernel_rfl, by kernel_rfl, (fun _ h => by cases h), (fun h => by cases h)⟩
theorem tr233 : TRow Tryz.prog 233 (some ti233) := fun i h => by cases h; exact ⟨Tryz.underlying233, by kernel_rfl, by kernel_rfl, by kernel_rfl, (fun _ h => by cases h), (fun h => by cases h)⟩
theorem tr234 : TRow Tryz.prog 234 (some ti234) := fun i h => by cases h; exact ⟨Tryz.underlying234, by kernel_rfl, by kernel_rfl, by kernel_rfl, (fun _ h => by cases h), (fun h => by cases h)⟩
theorem tr235 : TRow Tryz.prog 235 (some ti235) := fun i h => by cases h; exact ⟨Tryz.underlying235, by kernel_rfl, by kernel_rfl, by kernel_rfl, (fun _ h => by cases h), (fun h => by cases h)⟩
theorem tr236 : TRow Tryz.prog 236 (some ti236) := fun i h => by cases h; exact ⟨Tryz.underlying236, by kernel_rfl, by kernel_rfl, by kernel_rfl, (fun _ h => by cases h), (fun h => by cases h)⟩
theorem tr237 : TRow Tryz.prog 237 (some ti237) := fun i h => by cases h; exact ⟨Tryz.underlying237, by kernel_rfl, by kernel_rfl, by kernel_rfl, (fun _ h => by cases h), (fun h => by cases h)⟩
theorem tr238 : TRow Tryz.prog 238 (some ti238) := fun i h => by cases h; exact ⟨Tryz.underlying238, by kernel_rfl, by kernel_rfl, by kernel_rfl, (fun _ h => by cases h), (fun h => by cases h)⟩
theorem tr239 : TRow Tryz.prog 239 (some ti239) := fun i h => by cases h; exact ⟨Tryz.underlying239, by kernel_rfl, by kernel_rfl, by kernel_rfl, (fun _ h => by cases h), (fun h => by cases h)⟩
theorem tr240 : TRow Tryz.prog 240 (some ti240) := fun i h => by cases h; exact ⟨Tryz.underlying240, by kernel_rfl, by kernel_rfl, by kernel_rfl, (fun _ h => by cases h), (fun h => by cases h)⟩
theorem tr241 : TRow Tryz.prog 241 (some ti241) := fun i h => by cases h; exact ⟨Tryz.underlying241, by kernel_rfl, by kernel_rfl, by kernel_rfl, (fun _ h => by cases h), (fun h => by cases h)⟩
theorem tr242 : TRow Tryz.prog 242 (some ti242) := fun i h => by cases h; exact ⟨Tryz.underlying242, by kernel_rfl, by kernel_rfl, by kernel_rfl, (fun _ h => by cases h), (fun h => by cases h)⟩
theorem tr243 : TRow Tryz.prog 243 (some ti243) := fun i h => by cases h; exact ⟨Tryz.underlying243, by kernel_rfl, by kernel_rfl, by kernel_rfl, (fun _ h => by cases h), (fun h => by cases h)⟩
theorem tr244 : TRow Tryz.prog 244 (some ti244) := fun i h => by cases h; exact ⟨Tryz.underlying244, by kernel_rfl, by kernel_rfl, by kernel_rfl, (fun _ h => by cases h), (fun h => by cases h)⟩
theorem tr245 : TRow Tryz.prog 245 (some ti245) := fun i h => by cases h; exact ⟨Tryz.underlying245, by kernel_rfl, by kernel_rfl, by kernel_rfl, (fun _ h => by cases h), (fun h => by cases h)⟩
theorem tr246 : TRow Tryz.prog 246 (some ti246) := fun i h => by cases h; exact ⟨Tryz.underlying246, by kernel_rfl, by kernel_rfl, by kernel_rfl, (fun _ h => by cases h), (fun h => by cases h)⟩
theorem tr247 : TRow Tryz.prog 247 (some ti247) := fun i h => by cases h; exact ⟨Tryz.underlying247, by kernel_rfl, by kernel_rfl, by kernel_rfl, (fun _ h => by cases h), (fun h => by cases h)⟩
theorem tr248 : TRow Tryz.prog 248 (some ti248) := fun i h => by cases h; exact ⟨Tryz.underlying248, by kernel_rfl, by kernel_rfl, by kernel_rfl, (fun _ h => by cases h), (fun h => by cases h)⟩
theorem tr249 : TRow Tryz.prog 249 (some ti249) := fun i h => by cases h; exact ⟨Tryz.underlying249, by kernel_rfl, by kernel_rfl, by kernel_rfl, (fun _ h => by cases h), (fun h => by cases h)⟩
theorem tr250 : TRow Tryz.prog 250 (some ti250) := fun i h => by cases h; exact ⟨Tryz.underlying250, by kernel_rfl, by kernel_rfl, by kernel_rfl, (fun _ h => by cases h), (fun h => by cases h)⟩
theorem tr251 : TRow Tryz.prog 251 (some ti251) := fun i h => by cases h; exact ⟨Tryz.underlying251, by kernel_rfl, by kernel_rfl, by kernel_rfl, (fun _ h => by cases h; exact int_law Tryz.underlying251), (fun h => by cases h)⟩
theorem tr252 : TRow Tryz.prog 252 (some ti252) := fun i h => by cases h; exact ⟨Tryz.underlying252, by kernel_rfl, by kernel_rfl, by kernel_rfl, (fun _ h => by cases h), (fun h => by cases h)⟩
theorem tr253 : TRow Tryz.prog 253 (some ti253) := fun i h => by cases h; exact ⟨Tryz.underlying253, by kernel_rfl, by kernel_rfl, by kernel_rfl, (fun _ h => by cases h), (fun h => by cases h)⟩
theorem tr254 : TRow Tryz.prog 254 (some ti254) := fun i h => by cases h; exact ⟨Tryz.underlying254, by kernel_rfl, by kernel_rfl, by kernel_rfl, (fun _ h => by cases h), (fun h => by cases h)⟩
theorem tr255 : TRow Tryz.prog 255 (some ti255) := fun i h => by cases h; exact ⟨Tryz.underlying255, by kernel_rfl, by kernel_rfl, by kernel_rfl, (fun _ h => by cases h), (fun h => by cases h)⟩
theorem tr256 : TRow Tryz.prog 256 (some ti256) := fun i h => by cases h; exact ⟨Tryz.underlying256, by kernel_rfl, by kernel_rfl, by kernel_rfl, (fun _ h => by cases h), (fun h => by cases h)⟩
theorem tr257 : TRow Tryz.prog 257 (some ti257) := fun i h => by cases h; exact ⟨Tryz.underlying257, by kernel_rfl, by kernel_rfl, by kernel_rfl, (fun _ h => by cases h), (fun h => by cases h)⟩
theorem tr258 : TRow Tryz.prog 258 (some ti258) := fun i h => by cases h; exact ⟨Tryz.underlying258, by kernel_rfl, by kernel_rfl, by kernel_rfl, (fun _ h => by cases h), (fun h => by cases h)⟩
theorem tr259 : TRow Tryz.prog 259 (some ti259) := fun i h => by cases h; exact ⟨Tryz.underlying259, by kernel_rfl, by kernel_rfl, by kernel_rfl, (fun _ h => by cases h), (fun h => by cases h)⟩
theorem tr260 : TRow Tryz.prog 260 (some ti260) := fun i h => by cases h; exact ⟨Tryz.underlying260, by kernel_rfl, by kernel_rfl, by kernel_rfl, (fun _ h => by cases h), (fun h => by cases h)⟩
theorem tr261 : TRow Tryz.prog 261 (some ti261) := fun i h => by cases h; exact ⟨Tryz.underlying261, by kernel_rfl, by kernel_rfl, by kernel_rfl, (fun _ h => by cases h), (fun h => by cases h)⟩
theorem tr262 : TRow Tryz.prog 262 (some ti262) := fun i h => by cases h; exact ⟨Tryz.underlying262, by kernel_rfl, by kernel_rfl, by kernel_rfl, (fun _ h => by cases h), (fun h => by cases h)⟩
theorem tr263 : TRow Tryz.prog 263 (some ti263) := fun i h => by cases h; exact ⟨Tryz.underlying263, by kernel_rfl, by kernel_rfl, by kernel_rfl, (fun _ h => by cases h), (fun h => by cases h)⟩
theorem tr264 : TRow Tryz.prog 264 (some ti264) := fun i h => by cases h; exact ⟨Tryz.underlying264, by kernel_rfl, by kernel_rfl, by kernel_rfl, (fun _ h => by cases h), (fun h => by cases h)⟩
theorem tr265 : TRow Tryz.prog 265 (some ti265) := fun i h => by cases h; exact ⟨Tryz.underlying265, by kernel_rfl, by kernel_rfl, by kernel_rfl, (fun _ h => by cases h), (fun h => by cases h)⟩
theorem tr266 : TRow Tryz.prog 266 (some ti266) := fun i h => by cases h; exact ⟨Tryz.underlying266, by kernel_rfl, by kernel_rfl, by kernel_rfl, (fun _ h => by cases h), (fun h => by cases h)⟩
theorem tr267 : TRow Tryz.prog 267 (some ti267) := fun i h => by cases h; exact ⟨Tryz.underlying267, by kernel_rfl, by kernel_rfl, by kernel_rfl, (fun _ h => by cases h), (fun h => by cases h)⟩
theorem tr268 : TRow Tryz.prog 268 (some ti268) := fun i h => by cases h; exact ⟨Tryz.underlying268, by kernel_rfl, by kernel_rfl, by kernel_rfl, (fun _ h => by cases h), (fun h => by cases h)⟩
theorem tr269 : TRow Tryz.prog 269 (some ti269) := fun i h => by cases h; exact ⟨Tryz.underlying269, by kernel_rfl, by kernel_rfl, by kernel_rfl, (fun _ h => by cases h), (fun h => by cases h)⟩
theorem tr271 : TRow Tryz.prog 271 (some ti271) := fun i h => by cases h; exact ⟨Tryz.underlying271, by kernel_rfl, by kernel_rfl, by kernel_rfl, (fun _ h => by cases h), (fun h => by cases h)⟩
theorem tr272 : TRow Tryz.prog 272 (some ti272) := fun i h => by cases h; exact ⟨Tryz.underlying272, by kernel_rfl, by kernel_rfl, by kernel_rfl, (fun _ h => by cases h), (fun h => by cases h)⟩
theorem tr273 : TRow Tryz.prog 273 (some ti273) := fun i h => by cases h; exact ⟨Tryz.underlying273, by kernel_rfl, by kernel_rfl, by kernel_rfl, (fun _ h => by cases h), (fun h => by cases h)⟩
theorem tr274 : TRow Tryz.prog 274 (some ti274) := fun i h => by cases h; exact ⟨Tryz.underlying274, by kernel_rfl, by kernel_rfl, by kernel_rfl, (fun _ h => by cases h), (fun h => by cases h)⟩
theorem tr275 : TRow Tryz.prog 275 (some ti275) := fun i h => by cases h; exact ⟨Tryz.underlying275, by kernel_rfl, by kernel_rfl, by kernel_rfl, (fun _ h => by cases h), (fun h => by cases h)⟩
theorem tr276 : TRow Tryz.prog 276 (some ti276) := fun i h => by cases h; exact ⟨Tryz.underlying276, by kernel_rfl, by kernel_rfl, by kernel_rfl, (fun _ h => by cases h), (fun h => by cases h)⟩
theorem tr277 : TRow Tryz.prog 277 (some ti277) := fun i h => by cases h; exact ⟨Tryz.underlying277, by kernel_rfl, by kernel_rfl, by kernel_rfl, (fun _ h => by cases h), (fun h => by cases h)⟩
theorem tr278 : TRow Tryz.prog 278 (some ti278) := fun i h => by cases h; exact ⟨Tryz.underlying278, by kernel_rfl, by kernel_rfl, by kernel_rfl, (fun _ h => by cases h), (fun h => by cases h)⟩
theorem tr279 : TRow Tryz.prog 279 (some ti279) := fun i h => by cases h; exact ⟨Tryz.underlying279, by kernel_rfl, by kernel_rfl, by kernel_rfl, (fun _ h => by cases h), (fun _ => ⟨by kernel_rfl, by kernel_rfl⟩)⟩
theorem tr280 : TRow Tryz.prog 280 (some ti280) := fun i h => by cases h; exact ⟨Tryz.underlying280, by kernel_rfl, by kernel_rfl, by kernel_rfl, (fun _ h => by cases h), (fun h => by cases h)⟩
theorem tr281 : TRow Tryz.prog 281 (some ti281) := fun i h => by cases h; exact ⟨Tryz.underlying281, by kernel_rfl, by kernel_rfl, by kernel_rfl, (fun _ h => by cases h), (fun h => by cases h)⟩
theorem tr282 : TRow Tryz.prog 282 (some ti282) := fun i h => by cases h; exact ⟨Tryz.underlying282, by kernel_rfl, by kernel_rfl, by kernel_rfl, (fun _ h => by cases h; exact int_law Tryz.underlying282), (fun h => by cases h)⟩
theorem tr283 : TRow Tryz.prog 283 (some ti283) := fun i h => by cases h; exact ⟨Tryz.underlying283, by kernel_rfl, by kernel_rfl, by kernel_rfl, (fun _ h => by cases h; exact int_law Tryz.underlying283), (fun h => by cases h)⟩
theorem tr284 : TRow Tryz.prog 284 (some ti284) := fun i h => by cases h; exact ⟨Tryz.underlying284, by kernel_rfl, by kernel_rfl, by kernel_rfl, (fun _ h => by cases h), (fun h => by cases h)⟩
theorem tr285 : TRow Tryz.prog 285 (some ti285) := fun i h => by cases h; exact ⟨Tryz.underlying285, by kernel_rfl, by kernel_rfl, by kernel_rfl, (fun _ h => by cases h), (fun h => by cases h)⟩
theorem tr286 : TRow Tryz.prog 286 (some ti286) := fun i h => by cases h; exact ⟨Tryz.underlying286, by kernel_rfl, by kernel_rfl, by kernel_rfl, (fun _ h => by cases h; exact int_law Tryz.underlying286), (fun h => by cases h)⟩
theorem tr287 : TRow Tryz.prog 287 (some ti287) := fun i h => by cases h; exact ⟨Tryz.underlying287, by kernel_rfl, by kernel_rfl, by kernel_rfl, (fun _ h => by cases h; exact int_law Tryz.underlying287), (fun h => by cases h)⟩
theorem tr288 : TRow Tryz.prog 288 (some ti288) := fun i h => by cases h; exact ⟨Tryz.underlying288, by kernel_rfl, by kernel_rfl, by kernel_rfl, (fun _ h => by cases h), (fun h => by cases h)⟩
theorem tr289 : TRow Tryz.prog 289 (some ti289) := fun i h => by cases h; exact ⟨Tryz.underlying289, by kernel_rfl, by kernel_rfl, by kernel_rfl, (fun _ h => by cases h), (fun h => by cases h)⟩
set_option maxRecDepth 100000 in
theorem trows : TRows Tryz.prog 0 tys :=
  trows_cons trow_none <|
  trows_cons tr1 <|
  trows_cons tr2 <|
  trows_cons tr3 <|
  trows_cons tr4 <|
  trows_cons tr5 <|
  trows_cons tr6 <|
  trows_cons tr7 <|
  trows_cons tr8 <|
  trows_cons tr9 <|
  trows_cons tr10 <|
  trows_cons tr11 <|
  trows_cons tr12 <|
  trows_cons tr13 <|
  trows_cons tr14 <|
  trows_cons tr15 <|
  trows_cons tr16 <|
  trows_cons tr17 <|
  trows_cons tr18 <|
  trows_cons tr19 <|
  trows_cons trow_none <|
  trows_cons tr21 <|
  trows_cons tr22 <|
  trows_cons tr23 <|
  trows_cons tr24 <|
  trows_cons tr25 <|
  trows_cons tr26 <|
  trows_cons tr27 <|
  trows_cons tr28 <|
  trows_cons tr29 <|
  trows_cons tr30 <|
  trows_cons tr31 <|
  trows_cons tr32 <|
  trows_cons tr33 <|
  trows_cons trow_none <|
  trows_cons tr35 <|
  trows_cons tr36 <|
  trows_cons tr37 <|
  trows_cons tr38 <|
  trows_cons tr39 <|
  trows_cons trow_none <|
  trows_cons tr41 <|
  trows_cons tr42 <|
  trows_cons tr43 <|
  trows_cons tr44 <|
  trows_cons tr45 <|
  trows_cons tr46 <|
  trows_cons tr47 <|
  trows_cons tr48 <|
  trows_cons tr49 <|
  trows_cons tr50 <|
  trows_cons tr51 <|
  trows_cons tr52 <|
  trows_cons tr53 <|
  trows_cons tr54 <|
  trows_cons trow_none <|
  trows_cons tr56 <|
  trows_cons tr57 <|
  trows_cons tr58 <|
  trows_cons trow_none <|
  trows_cons tr60 <|
  trows_cons trow_none <|
  trows_cons tr62 <|
  trows_cons tr63 <|
  trows_cons tr64 <|
  trows_cons tr65 <|
  trows_cons tr66 <|
  trows_cons tr67 <|
  trows_cons tr68 <|
  trows_cons tr69 <|
  trows_cons tr70 <|
  trows_cons tr71 <|
  trows_cons tr72 <|
  trows_cons tr73 <|
  trows_cons tr74 <|
  trows_cons trow_none <|
  trows_cons tr76 <|
  trows_cons tr77 <|
  trows_cons tr78 <|
  trows_cons tr79 <|
  trows_cons tr80 <|
  trows_cons tr81 <|
  trows_cons tr82 <|
  trows_cons tr83 <|
  trows_cons tr84 <|
  trows_cons tr85 <|
  trows_cons tr86 <|
  trows_cons tr87 <|
  trows_cons tr88 <|
  trows_cons tr89 <|
  trows_cons tr90 <|
  trows_cons tr91 <|
  trows_cons tr92 <|
  trows_cons tr93 <|
  trows_cons tr94 <|
  trows_cons tr95 <|
  trows_cons tr96 <|
  trows_cons trow_none <|
  trows_cons tr98 <|
  trows_cons tr99 <|
  trows_cons tr100 <|
  trows_cons tr101 <|
  trows_cons tr102 <|
  trows_cons tr103 <|
  trows_cons tr104 <|
  trows_cons tr105 <|
  trows_cons tr106 <|
  trows_cons tr107 <|
  trows_cons tr108 <|
  trows_cons tr109 <|
  trows_cons tr110 <|
  trows_cons tr111 <|
  trows_cons tr112 <|
  trows_cons tr113 <|
  trows_cons trow_none <|
  trows_cons tr115 <|
  trows_cons tr116 <|
  trows_cons tr117 <|
  trows_cons tr118 <|
  trows_cons tr119 <|
  trows_cons tr120 <|
  trows_cons tr121 <|
  trows_cons tr122 <|
  trows_cons tr123 <|
  trows_cons tr124 <|
  trows_cons tr125 <|
  trows_cons tr126 <|
  trows_cons tr127 <|
  trows_cons tr128 <|
  trows_cons tr129 <|
  trows_cons trow_none <|
  trows_cons tr131 <|
  trows_cons trow_none <|
  trows_cons tr133 <|
  trows_cons trow_none <|
  trows_cons tr135 <|
  trows_cons tr136 <|
  trows_cons tr137 <|
  trows_cons tr138 <|
  trows_cons tr139 <|
  trows_cons tr140 <|
  trows_cons trow_none <|
  trows_cons tr142 <|
  trows_cons tr143 <|
  trows_cons tr144 <|
  trows_cons tr145 <|
  trows_cons tr146 <|
  trows_cons tr147 <|
  trows_cons tr148 <|
  trows_cons tr149 <|
  trows_cons tr150 <|
  trows_cons tr151 <|
  trows_cons tr152 <|
  trows_cons tr153 <|
  trows_cons tr154 <|
  trows_cons tr155 <|
  trows_cons tr156 <|
  trows_cons tr157 <|
  trows_cons tr158 <|
  trows_cons tr159 <|
  trows_cons tr160 <|
  trows_cons tr161 <|
  trows_cons tr162 <|
  trows_cons tr163 <|
  trows_cons tr164 <|
  trows_cons tr165 <|
  trows_cons tr166 <|
  trows_cons tr167 <|
  trows_cons tr168 <|
  trows_cons tr169 <|
  trows_cons tr170 <|
  trows_cons tr171 <|
  trows_cons trow_none <|
  trows_cons tr173 <|
  trows_cons trow_none <|
  trows_cons tr175 <|
  trows_cons tr176 <|
  trows_cons tr177 <|
  trows_cons tr178 <|
  trows_cons tr179 <|
  trows_cons tr180 <|
  trows_cons tr181 <|
  trows_cons tr182 <|
  trows_cons tr183 <|
  trows_cons tr184 <|
  trows_cons tr185 <|
  trows_cons tr186 <|
  trows_cons tr187 <|
  trows_cons tr188 <|
  trows_cons tr189 <|
  trows_cons tr190 <|
  trows_cons tr191 <|
  trows_cons tr192 <|
  trows_cons tr193 <|
  trows_cons tr194 <|
  trows_cons tr195 <|
  trows_cons tr196 <|
  trows_cons tr197 <|
  trows_cons tr198 <|
  trows_cons trow_none <|
  trows_cons tr200 <|
  trows_cons tr201 <|
  trows_cons tr202 <|
  trows_cons tr203 <|
  trows_cons tr204 <|
  trows_cons tr205 <|
  trows_cons tr206 <|
  trows_cons tr207 <|
  trows_cons tr208 <|
  trows_cons tr209 <|
  trows_cons tr210 <|
  trows_cons tr211 <|
  trows_cons tr212 <|
  trows_cons tr213 <|
  trows_cons tr214 <|
  trows_cons tr215 <|
  trows_cons tr216 <|
  trows_cons trow_none <|
  trows_cons tr218 <|
  trows_cons tr219 <|
  trows_cons tr220 <|
  trows_cons tr221 <|
  trows_cons tr222 <|
  trows_cons trow_none <|
  trows_cons tr224 <|
  trows_cons tr225 <|
  trows_cons tr226 <|
  trows_cons tr227 <|
  trows_cons tr228 <|
  trows_cons tr229 <|
  trows_cons tr230 <|
  trows_cons tr231 <|
  trows_cons tr232 <|
  trows_cons tr233 <|
  trows_cons tr234 <|
  trows_cons tr235 <|
  trows_cons tr236 <|
  trows_cons tr237 <|
  trows_cons tr238 <|
  trows_cons tr239 <|
  trows_cons tr240 <|
  trows_cons tr241 <|
  trows_cons tr242 <|
  trows_cons tr243 <|
  trows_cons tr244 <|
  trows_cons tr245 <|
  trows_cons tr246 <|
  trows_cons tr247 <|
  trows_cons tr248 <|
  trows_cons tr249 <|
  trows_cons tr250 <|
  trows_cons tr251 <|
  trows_cons tr252 <|
  trows_cons tr253 <|
  trows_cons tr254 <|
  trows_cons tr255 <|
  trows_cons tr256 <|
  trows_cons tr257 <|
  trows_cons tr258 <|
  trows_cons tr259 <|
  trows_cons tr260 <|
  trows_cons tr261 <|
  trows_cons tr262 <|
  trows_cons tr263 <|
  trows_cons tr264 <|
  trows_cons tr265 <|
  trows_cons tr266 <|
  trows_cons tr267 <|
  trows_cons tr268 <|
  trows_cons tr269 <|
  trows_cons trow_none <|
  trows_cons tr271 <|
  trows_cons tr272 <|
  trows_cons tr273 <|
  trows_cons tr274 <|
  trows_cons tr275 <|
  trows_cons tr276 <|
  trows_cons tr277 <|
  trows_cons tr278 <|
  trows_cons tr279 <|
  trows_cons tr280 <|
  trows_cons tr281 <|
  trows_cons tr282 <|
  trows_cons tr283 <|
  trows_cons tr284 <|
  trows_cons tr285 <|
  trows_cons tr286 <|
  trows_cons tr287 <|
  trows_cons tr288 <|
  trows_cons tr289 <|
  trows_nil
theorem tok : TOk Tryz.prog T := tok_rows trows
end Go.Proofs.YteijbpppalhihaaGreat
