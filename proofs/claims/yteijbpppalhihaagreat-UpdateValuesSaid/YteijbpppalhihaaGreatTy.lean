/- Ty: the types of this seat for the abstract machine, printed by mkty.py. -/
import Derived.Test.YteijbpppalhihaaGreatProg
import Derived.Test.YteijbpppalhihaaGreatAMe
namespace Go.Proofs.YteijbpppalhihaaGreat
open Go Go.AM
def ti1 : TI := ⟨.func #[] #[] false, 1, 8, .nilFn, .nilFunc, none, false, false⟩
def ti2 : TI := ⟨.int .i64, 1, 8, .int .i64 0, .int .i64 0, some (.int .i64), false, false⟩
def ti3 : TI := ⟨.int .i64, 1, 8, .int .i64 0, .int .i64 0, some (.int .i64), false, false⟩
def ti4 : TI := ⟨.bool, 1, 1, .bool false, .bool false, some .bool, false, false⟩
def ti5 : TI := ⟨.int .u8, 1, 1, .int .u8 0, .int .u8 0, some (.int .u8), false, false⟩
def ti6 : TI := ⟨.int .u8, 1, 1, .int .u8 0, .int .u8 0, some (.int .u8), false, false⟩
def ti7 : TI := ⟨.struct #[⟨"x", 2, 0, false, "", "runtime", 0⟩, ⟨"y", 3, 1, false, "", "runtime", 8⟩, ⟨"signed", 4, 2, false, "", "runtime", 16⟩, ⟨"code", 6, 3, false, "", "runtime", 17⟩], 4, 24, .agg [.int .i64 0, .int .i64 0, .bool false, .int .u8 0], .agg #[.int .i64 0, .int .i64 0, .bool false, .int .u8 0], none, true, false⟩
def ti8 : TI := ⟨.struct #[⟨"x", 2, 0, false, "", "runtime", 0⟩, ⟨"y", 3, 1, false, "", "runtime", 8⟩, ⟨"signed", 4, 2, false, "", "runtime", 16⟩, ⟨"code", 6, 3, false, "", "runtime", 17⟩], 4, 24, .agg [.int .i64 0, .int .i64 0, .bool false, .int .u8 0], .agg #[.int .i64 0, .int .i64 0, .bool false, .int .u8 0], none, true, false⟩
def ti9 : TI := ⟨.string, 1, 16, .str ByteArray.empty, .string ByteArray.empty, some .str, false, false⟩
def ti10 : TI := ⟨.string, 1, 16, .str ByteArray.empty, .string ByteArray.empty, some .str, false, false⟩
def ti11 : TI := ⟨.string, 1, 16, .str ByteArray.empty, .string ByteArray.empty, some .str, false, false⟩
def ti12 : TI := ⟨.int .u64, 1, 8, .int .u64 0, .int .u64 0, some (.int .u64), false, false⟩
def ti13 : TI := ⟨.struct #[⟨"msg", 9, 0, false, "", "runtime", 0⟩, ⟨"addr", 12, 1, false, "", "runtime", 16⟩], 2, 24, .agg [.str ByteArray.empty, .int .u64 0], .agg #[.string ByteArray.empty, .int .u64 0], none, false, false⟩
def ti14 : TI := ⟨.struct #[⟨"msg", 9, 0, false, "", "runtime", 0⟩, ⟨"addr", 12, 1, false, "", "runtime", 16⟩], 2, 24, .agg [.str ByteArray.empty, .int .u64 0], .agg #[.string ByteArray.empty, .int .u64 0], none, false, false⟩
def ti15 : TI := ⟨.pointer 278, 1, 8, .nilP, .pointer none, none, false, false⟩
def ti16 : TI := ⟨.pointer 281, 1, 8, .nilP, .pointer none, none, false, false⟩
def ti17 : TI := ⟨.pointer 289, 1, 8, .nilP, .pointer none, none, false, false⟩
def ti18 : TI := ⟨.struct #[⟨"typ", 17, 0, false, "", "internal/runtime/maps", 0⟩], 1, 8, .agg [.nilP], .agg #[.pointer none], none, false, false⟩
def ti19 : TI := ⟨.struct #[⟨"typ", 17, 0, false, "", "internal/runtime/maps", 0⟩], 1, 8, .agg [.nilP], .agg #[.pointer none], none, false, false⟩
def ti21 : TI := ⟨.int .i32, 1, 4, .int .i32 0, .int .i32 0, some (.int .i32), false, false⟩
def ti22 : TI := ⟨.slice 155, 1, 24, .nilS, .slice none 0 0, none, false, false⟩
def ti23 : TI := ⟨.struct #[⟨"Attrs", 5, 0, false, "", "", 0⟩, ⟨"Gap", 5, 1, false, "", "", 1⟩, ⟨"Rows", 22, 2, false, "", "", 8⟩], 3, 32, .agg [.int .u8 0, .int .u8 0, .nilS], .agg #[.int .u8 0, .int .u8 0, .slice none 0 0], none, true, false⟩
def ti24 : TI := ⟨.struct #[⟨"Attrs", 5, 0, false, "", "", 0⟩, ⟨"Gap", 5, 1, false, "", "", 1⟩, ⟨"Rows", 22, 2, false, "", "", 8⟩], 3, 32, .agg [.int .u8 0, .int .u8 0, .nilS], .agg #[.int .u8 0, .int .u8 0, .slice none 0 0], none, true, false⟩
def ti25 : TI := ⟨.slice 158, 1, 24, .nilS, .slice none 0 0, none, false, false⟩
def ti26 : TI := ⟨.struct #[⟨"T", 24, 0, false, "", "", 0⟩, ⟨"F", 25, 3, false, "", "", 32⟩], 4, 56, .agg [.int .u8 0, .int .u8 0, .nilS, .nilS], .agg #[.int .u8 0, .int .u8 0, .slice none 0 0, .slice none 0 0], none, true, false⟩
def ti27 : TI := ⟨.struct #[⟨"T", 24, 0, false, "", "", 0⟩, ⟨"F", 25, 3, false, "", "", 32⟩], 4, 56, .agg [.int .u8 0, .int .u8 0, .nilS, .nilS], .agg #[.int .u8 0, .int .u8 0, .slice none 0 0, .slice none 0 0], none, true, false⟩
def ti28 : TI := ⟨.int .u16, 1, 2, .int .u16 0, .int .u16 0, some (.int .u16), false, false⟩
def ti29 : TI := ⟨.slice 9, 1, 24, .nilS, .slice none 0 0, none, false, false⟩
def ti30 : TI := ⟨.slice 66, 1, 24, .nilS, .slice none 0 0, none, false, false⟩
def ti31 : TI := ⟨.struct #[⟨"Name", 9, 0, false, "", "", 0⟩, ⟨"Attrs", 29, 1, false, "", "", 16⟩, ⟨"Rows", 30, 2, false, "", "", 40⟩], 3, 64, .agg [.str ByteArray.empty, .nilS, .nilS], .agg #[.string ByteArray.empty, .slice none 0 0, .slice none 0 0], none, true, false⟩
def ti32 : TI := ⟨.struct #[⟨"Name", 9, 0, false, "", "", 0⟩, ⟨"Attrs", 29, 1, false, "", "", 16⟩, ⟨"Rows", 30, 2, false, "", "", 40⟩], 3, 64, .agg [.str ByteArray.empty, .nilS, .nilS], .agg #[.string ByteArray.empty, .slice none 0 0, .slice none 0 0], none, true, false⟩
def ti33 : TI := ⟨.slice 46, 1, 24, .nilS, .slice none 0 0, none, false, false⟩
def ti35 : TI := ⟨.func #[27] #[32, 33, 4] false, 1, 8, .nilFn, .nilFunc, none, false, false⟩
def ti36 : TI := ⟨.func #[] #[4] false, 1, 8, .nilFn, .nilFunc, none, false, false⟩
def ti37 : TI := ⟨.slice 49, 1, 24, .nilS, .slice none 0 0, none, false, false⟩
def ti38 : TI := ⟨.func #[32, 28] #[37] false, 1, 8, .nilFn, .nilFunc, none, false, false⟩
def ti39 : TI := ⟨.int .i64, 1, 8, .int .i64 0, .int .i64 0, some (.int .i64), false, false⟩
def ti41 : TI := ⟨.func #[32, 33, 37] #[4, 39] false, 1, 8, .nilFn, .nilFunc, none, false, false⟩
def ti42 : TI := ⟨.func #[33] #[33] false, 1, 8, .nilFn, .nilFunc, none, false, false⟩
def ti43 : TI := ⟨.int .u32, 1, 4, .int .u32 0, .int .u32 0, some (.int .u32), false, false⟩
def ti44 : TI := ⟨.int .u32, 1, 4, .int .u32 0, .int .u32 0, some (.int .u32), false, false⟩
def ti45 : TI := ⟨.struct #[⟨"Lhs", 44, 0, false, "", "", 0⟩, ⟨"Rhs", 44, 1, false, "", "", 4⟩], 2, 8, .agg [.int .u32 0, .int .u32 0], .agg #[.int .u32 0, .int .u32 0], none, true, false⟩
def ti46 : TI := ⟨.struct #[⟨"Lhs", 44, 0, false, "", "", 0⟩, ⟨"Rhs", 44, 1, false, "", "", 4⟩], 2, 8, .agg [.int .u32 0, .int .u32 0], .agg #[.int .u32 0, .int .u32 0], none, true, false⟩
def ti47 : TI := ⟨.func #[37] #[37] false, 1, 8, .nilFn, .nilFunc, none, false, false⟩
def ti48 : TI := ⟨.struct #[⟨"ID", 2, 0, false, "", "", 0⟩, ⟨"Attr", 3, 1, false, "", "", 8⟩], 2, 16, .agg [.int .i64 0, .int .i64 0], .agg #[.int .i64 0, .int .i64 0], none, true, false⟩
def ti49 : TI := ⟨.struct #[⟨"ID", 2, 0, false, "", "", 0⟩, ⟨"Attr", 3, 1, false, "", "", 8⟩], 2, 16, .agg [.int .i64 0, .int .i64 0], .agg #[.int .i64 0, .int .i64 0], none, true, false⟩
def ti50 : TI := ⟨.func #[32, 33, 37] #[4] false, 1, 8, .nilFn, .nilFunc, none, false, false⟩
def ti51 : TI := ⟨.func #[27, 28, 28] #[4] false, 1, 8, .nilFn, .nilFunc, none, false, false⟩
def ti52 : TI := ⟨.array 2 5, 2, 2, .agg [.int .u8 0, .int .u8 0], .agg #[.int .u8 0, .int .u8 0], none, true, false⟩
def ti53 : TI := ⟨.func #[32] #[37] false, 1, 8, .nilFn, .nilFunc, none, false, false⟩
def ti54 : TI := ⟨.func #[27, 52] #[4] false, 1, 8, .nilFn, .nilFunc, none, false, false⟩
def ti56 : TI := ⟨.func #[32, 33, 37] #[37, 39] false, 1, 8, .nilFn, .nilFunc, none, false, false⟩
def ti57 : TI := ⟨.func #[32, 37] #[37] false, 1, 8, .nilFn, .nilFunc, none, false, false⟩
def ti58 : TI := ⟨.func #[27, 28] #[4] false, 1, 8, .nilFn, .nilFunc, none, false, false⟩
def ti60 : TI := ⟨.func #[32, 33, 37] #[32, 39] false, 1, 8, .nilFn, .nilFunc, none, false, false⟩
def ti62 : TI := ⟨.func #[32, 33, 37] #[3, 39] false, 1, 8, .nilFn, .nilFunc, none, false, false⟩
def ti63 : TI := ⟨.func #[32, 32] #[4] false, 1, 8, .nilFn, .nilFunc, none, false, false⟩
def ti64 : TI := ⟨.slice 68, 1, 24, .nilS, .slice none 0 0, none, false, false⟩
def ti65 : TI := ⟨.struct #[⟨"ID", 2, 0, false, "", "", 0⟩, ⟨"Values", 64, 1, false, "", "", 8⟩], 2, 32, .agg [.int .i64 0, .nilS], .agg #[.int .i64 0, .slice none 0 0], none, true, false⟩
def ti66 : TI := ⟨.struct #[⟨"ID", 2, 0, false, "", "", 0⟩, ⟨"Values", 64, 1, false, "", "", 8⟩], 2, 32, .agg [.int .i64 0, .nilS], .agg #[.int .i64 0, .slice none 0 0], none, true, false⟩
def ti67 : TI := ⟨.struct #[⟨"Kind", 3, 0, false, "", "", 0⟩, ⟨"Num", 2, 1, false, "", "", 8⟩, ⟨"Str", 9, 2, false, "", "", 16⟩], 3, 32, .agg [.int .i64 0, .int .i64 0, .str ByteArray.empty], .agg #[.int .i64 0, .int .i64 0, .string ByteArray.empty], none, true, false⟩
def ti68 : TI := ⟨.struct #[⟨"Kind", 3, 0, false, "", "", 0⟩, ⟨"Num", 2, 1, false, "", "", 8⟩, ⟨"Str", 9, 2, false, "", "", 16⟩], 3, 32, .agg [.int .i64 0, .int .i64 0, .str ByteArray.empty], .agg #[.int .i64 0, .int .i64 0, .string ByteArray.empty], none, true, false⟩
def ti69 : TI := ⟨.func #[37, 49] #[4] false, 1, 8, .nilFn, .nilFunc, none, false, false⟩
def ti70 : TI := ⟨.func #[32, 33] #[4] false, 1, 8, .nilFn, .nilFunc, none, false, false⟩
def ti71 : TI := ⟨.slice 37, 1, 24, .nilS, .slice none 0 0, none, false, false⟩
def ti72 : TI := ⟨.slice 90, 1, 24, .nilS, .slice none 0 0, none, false, false⟩
def ti73 : TI := ⟨.struct #[⟨"Cells", 37, 0, false, "", "", 0⟩, ⟨"Table", 32, 1, false, "", "", 24⟩, ⟨"Cores", 71, 4, false, "", "", 88⟩, ⟨"Proof", 72, 5, false, "", "", 112⟩], 6, 136, .agg [.nilS, .str ByteArray.empty, .nilS, .nilS, .nilS, .nilS], .agg #[.slice none 0 0, .string ByteArray.empty, .slice none 0 0, .slice none 0 0, .slice none 0 0, .slice none 0 0], none, true, false⟩
def ti74 : TI := ⟨.struct #[⟨"Cells", 37, 0, false, "", "", 0⟩, ⟨"Table", 32, 1, false, "", "", 24⟩, ⟨"Cores", 71, 4, false, "", "", 88⟩, ⟨"Proof", 72, 5, false, "", "", 112⟩], 6, 136, .agg [.nilS, .str ByteArray.empty, .nilS, .nilS, .nilS, .nilS], .agg #[.slice none 0 0, .string ByteArray.empty, .slice none 0 0, .slice none 0 0, .slice none 0 0, .slice none 0 0], none, true, false⟩
def ti76 : TI := ⟨.func #[32, 33, 3] #[74, 39] false, 1, 8, .nilFn, .nilFunc, none, false, false⟩
def ti77 : TI := ⟨.func #[32, 33, 74] #[4] false, 1, 8, .nilFn, .nilFunc, none, false, false⟩
def ti78 : TI := ⟨.func #[32, 33] #[3] false, 1, 8, .nilFn, .nilFunc, none, false, false⟩
def ti79 : TI := ⟨.func #[27] #[4] false, 1, 8, .nilFn, .nilFunc, none, false, false⟩
def ti80 : TI := ⟨.int .i8, 1, 1, .int .i8 0, .int .i8 0, some (.int .i8), false, false⟩
def ti81 : TI := ⟨.struct #[⟨"Kind", 5, 0, false, "", "", 0⟩, ⟨"At", 5, 1, false, "", "", 1⟩, ⟨"By", 80, 2, false, "", "", 2⟩], 3, 3, .agg [.int .u8 0, .int .u8 0, .int .i8 0], .agg #[.int .u8 0, .int .u8 0, .int .i8 0], none, true, false⟩
def ti82 : TI := ⟨.struct #[⟨"Kind", 5, 0, false, "", "", 0⟩, ⟨"At", 5, 1, false, "", "", 1⟩, ⟨"By", 80, 2, false, "", "", 2⟩], 3, 3, .agg [.int .u8 0, .int .u8 0, .int .i8 0], .agg #[.int .u8 0, .int .u8 0, .int .i8 0], none, true, false⟩
def ti83 : TI := ⟨.array 2 82, 6, 6, .agg [.int .u8 0, .int .u8 0, .int .i8 0, .int .u8 0, .int .u8 0, .int .i8 0], .agg #[.int .u8 0, .int .u8 0, .int .i8 0, .int .u8 0, .int .u8 0, .int .i8 0], none, true, false⟩
def ti84 : TI := ⟨.func #[32, 74, 82] #[74] false, 1, 8, .nilFn, .nilFunc, none, false, false⟩
def ti85 : TI := ⟨.func #[27, 83] #[4] false, 1, 8, .nilFn, .nilFunc, none, false, false⟩
def ti86 : TI := ⟨.func #[32, 33, 37] #[39] false, 1, 8, .nilFn, .nilFunc, none, false, false⟩
def ti87 : TI := ⟨.func #[32, 33] #[39] false, 1, 8, .nilFn, .nilFunc, none, false, false⟩
def ti88 : TI := ⟨.slice 151, 1, 24, .nilS, .slice none 0 0, none, false, false⟩
def ti89 : TI := ⟨.struct #[⟨"Vertex", 3, 0, false, "", "", 0⟩, ⟨"Shares", 88, 1, false, "", "", 8⟩], 2, 32, .agg [.int .i64 0, .nilS], .agg #[.int .i64 0, .slice none 0 0], none, true, false⟩
def ti90 : TI := ⟨.struct #[⟨"Vertex", 3, 0, false, "", "", 0⟩, ⟨"Shares", 88, 1, false, "", "", 8⟩], 2, 32, .agg [.int .i64 0, .nilS], .agg #[.int .i64 0, .slice none 0 0], none, true, false⟩
def ti91 : TI := ⟨.func #[24, 3] #[32] false, 1, 8, .nilFn, .nilFunc, none, false, false⟩
def ti92 : TI := ⟨.func #[3, 25] #[33] false, 1, 8, .nilFn, .nilFunc, none, false, false⟩
def ti93 : TI := ⟨.func #[] #[32] false, 1, 8, .nilFn, .nilFunc, none, false, false⟩
def ti94 : TI := ⟨.func #[5] #[68] false, 1, 8, .nilFn, .nilFunc, none, false, false⟩
def ti95 : TI := ⟨.func #[37, 37] #[4] false, 1, 8, .nilFn, .nilFunc, none, false, false⟩
def ti96 : TI := ⟨.slice 115, 1, 24, .nilS, .slice none 0 0, none, false, false⟩
def ti98 : TI := ⟨.func #[32, 33, 37] #[96, 4] false, 1, 8, .nilFn, .nilFunc, none, false, false⟩
def ti99 : TI := ⟨.func #[32, 49] #[68] false, 1, 8, .nilFn, .nilFunc, none, false, false⟩
def ti100 : TI := ⟨.func #[32, 49, 68] #[32, 39] false, 1, 8, .nilFn, .nilFunc, none, false, false⟩
def ti101 : TI := ⟨.func #[32, 33, 37] #[37] false, 1, 8, .nilFn, .nilFunc, none, false, false⟩
def ti102 : TI := ⟨.pointer 112, 1, 8, .nilP, .pointer none, none, false, false⟩
def ti103 : TI := ⟨.func #[32, 37] #[102] false, 1, 8, .nilFn, .nilFunc, none, false, false⟩
def ti104 : TI := ⟨.func #[3, 33] #[4] false, 1, 8, .nilFn, .nilFunc, none, false, false⟩
def ti105 : TI := ⟨.map 2 4, 1, 8, .nilM, .map none, none, false, false⟩
def ti106 : TI := ⟨.func #[29] #[29] false, 1, 8, .nilFn, .nilFunc, none, false, false⟩
def ti107 : TI := ⟨.map 3 68, 1, 8, .nilM, .map none, none, false, false⟩
def ti108 : TI := ⟨.func #[3] #[3] false, 1, 8, .nilFn, .nilFunc, none, false, false⟩
def ti109 : TI := ⟨.slice 3, 1, 24, .nilS, .slice none 0 0, none, false, false⟩
def ti110 : TI := ⟨.slice 113, 1, 24, .nilS, .slice none 0 0, none, false, false⟩
def ti111 : TI := ⟨.struct #[⟨"n", 3, 0, false, "", "dross/update", 0⟩, ⟨"parent", 109, 1, false, "", "dross/update", 8⟩, ⟨"known", 110, 2, false, "", "dross/update", 32⟩], 3, 56, .agg [.int .i64 0, .nilS, .nilS], .agg #[.int .i64 0, .slice none 0 0, .slice none 0 0], none, true, false⟩
def ti112 : TI := ⟨.struct #[⟨"n", 3, 0, false, "", "dross/update", 0⟩, ⟨"parent", 109, 1, false, "", "dross/update", 8⟩, ⟨"known", 110, 2, false, "", "dross/update", 32⟩], 3, 56, .agg [.int .i64 0, .nilS, .nilS], .agg #[.int .i64 0, .slice none 0 0, .slice none 0 0], none, true, false⟩
def ti113 : TI := ⟨.pointer 68, 1, 8, .nilP, .pointer none, none, false, false⟩
def ti115 : TI := ⟨.slice 117, 1, 24, .nilS, .slice none 0 0, none, false, false⟩
def ti116 : TI := ⟨.struct #[⟨"V", 68, 0, false, "", "", 0⟩, ⟨"Symbol", 3, 3, false, "", "", 32⟩], 4, 40, .agg [.int .i64 0, .int .i64 0, .str ByteArray.empty, .int .i64 0], .agg #[.int .i64 0, .int .i64 0, .string ByteArray.empty, .int .i64 0], none, true, false⟩
def ti117 : TI := ⟨.struct #[⟨"V", 68, 0, false, "", "", 0⟩, ⟨"Symbol", 3, 3, false, "", "", 32⟩], 4, 40, .agg [.int .i64 0, .int .i64 0, .str ByteArray.empty, .int .i64 0], .agg #[.int .i64 0, .int .i64 0, .string ByteArray.empty, .int .i64 0], none, true, false⟩
def ti118 : TI := ⟨.func #[32, 2] #[4] false, 1, 8, .nilFn, .nilFunc, none, false, false⟩
def ti119 : TI := ⟨.func #[96, 117, 117] #[] false, 1, 8, .nilFn, .nilFunc, none, false, false⟩
def ti120 : TI := ⟨.func #[32, 30] #[32] false, 1, 8, .nilFn, .nilFunc, none, false, false⟩
def ti121 : TI := ⟨.func #[32, 32] #[37] false, 1, 8, .nilFn, .nilFunc, none, false, false⟩
def ti122 : TI := ⟨.func #[29, 29] #[4] false, 1, 8, .nilFn, .nilFunc, none, false, false⟩
def ti123 : TI := ⟨.func #[66, 66] #[4] false, 1, 8, .nilFn, .nilFunc, none, false, false⟩
def ti124 : TI := ⟨.func #[37, 49] #[3] false, 1, 8, .nilFn, .nilFunc, none, false, false⟩
def ti125 : TI := ⟨.func #[66, 66, 44] #[4] false, 1, 8, .nilFn, .nilFunc, none, false, false⟩
def ti126 : TI := ⟨.slice 2, 1, 24, .nilS, .slice none 0 0, none, false, false⟩
def ti127 : TI := ⟨.slice 109, 1, 24, .nilS, .slice none 0 0, none, false, false⟩
def ti128 : TI := ⟨.struct #[⟨"Weights", 126, 0, false, "", "", 0⟩, ⟨"Edges", 127, 1, false, "", "", 24⟩], 2, 48, .agg [.nilS, .nilS], .agg #[.slice none 0 0, .slice none 0 0], none, true, false⟩
def ti129 : TI := ⟨.struct #[⟨"Weights", 126, 0, false, "", "", 0⟩, ⟨"Edges", 127, 1, false, "", "", 24⟩], 2, 48, .agg [.nilS, .nilS], .agg #[.slice none 0 0, .slice none 0 0], none, true, false⟩
def ti131 : TI := ⟨.func #[71] #[129, 37] false, 1, 8, .nilFn, .nilFunc, none, false, false⟩
def ti133 : TI := ⟨.func #[129, 3] #[109, 2, 39] false, 1, 8, .nilFn, .nilFunc, none, false, false⟩
def ti135 : TI := ⟨.func #[129, 2, 3] #[72, 39] false, 1, 8, .nilFn, .nilFunc, none, false, false⟩
def ti136 : TI := ⟨.func #[71, 137] #[] false, 1, 8, .nilFn, .nilFunc, none, false, false⟩
def ti137 : TI := ⟨.func #[37, 37] #[3] false, 1, 8, .nilFn, .nilFunc, none, false, false⟩
def ti138 : TI := ⟨.func #[32, 32, 37] #[4] false, 1, 8, .nilFn, .nilFunc, none, false, false⟩
def ti139 : TI := ⟨.func #[129, 2, 72] #[4] false, 1, 8, .nilFn, .nilFunc, none, false, false⟩
def ti140 : TI := ⟨.func #[32] #[39] false, 1, 8, .nilFn, .nilFunc, none, false, false⟩
def ti142 : TI := ⟨.func #[37, 49, 143] #[3, 4] false, 1, 8, .nilFn, .nilFunc, none, false, false⟩
def ti143 : TI := ⟨.func #[49, 49] #[3] false, 1, 8, .nilFn, .nilFunc, none, false, false⟩
def ti144 : TI := ⟨.func #[37, 3, 3] #[37] false, 1, 8, .nilFn, .nilFunc, none, false, false⟩
def ti145 : TI := ⟨.func #[71, 3, 3] #[71] false, 1, 8, .nilFn, .nilFunc, none, false, false⟩
def ti146 : TI := ⟨.func #[71] #[71] false, 1, 8, .nilFn, .nilFunc, none, false, false⟩
def ti147 : TI := ⟨.func #[72] #[72] false, 1, 8, .nilFn, .nilFunc, none, false, false⟩
def ti148 : TI := ⟨.pointer 90, 1, 8, .nilP, .pointer none, none, false, false⟩
def ti149 : TI := ⟨.func #[88] #[88] false, 1, 8, .nilFn, .nilFunc, none, false, false⟩
def ti150 : TI := ⟨.struct #[⟨"Edge", 3, 0, false, "", "", 0⟩, ⟨"Amount", 2, 1, false, "", "", 8⟩], 2, 16, .agg [.int .i64 0, .int .i64 0], .agg #[.int .i64 0, .int .i64 0], none, true, false⟩
def ti151 : TI := ⟨.struct #[⟨"Edge", 3, 0, false, "", "", 0⟩, ⟨"Amount", 2, 1, false, "", "", 8⟩], 2, 16, .agg [.int .i64 0, .int .i64 0], .agg #[.int .i64 0, .int .i64 0], none, true, false⟩
def ti152 : TI := ⟨.func #[37, 3] #[37] false, 1, 8, .nilFn, .nilFunc, none, false, false⟩
def ti153 : TI := ⟨.func #[49, 49] #[4] false, 1, 8, .nilFn, .nilFunc, none, false, false⟩
def ti154 : TI := ⟨.func #[3, 33] #[39] false, 1, 8, .nilFn, .nilFunc, none, false, false⟩
def ti155 : TI := ⟨.slice 5, 1, 24, .nilS, .slice none 0 0, none, false, false⟩
def ti156 : TI := ⟨.func #[3] #[44] false, 1, 8, .nilFn, .nilFunc, none, false, false⟩
def ti157 : TI := ⟨.struct #[⟨"L", 5, 0, false, "", "", 0⟩, ⟨"R", 5, 1, false, "", "", 1⟩], 2, 2, .agg [.int .u8 0, .int .u8 0], .agg #[.int .u8 0, .int .u8 0], none, true, false⟩
def ti158 : TI := ⟨.struct #[⟨"L", 5, 0, false, "", "", 0⟩, ⟨"R", 5, 1, false, "", "", 1⟩], 2, 2, .agg [.int .u8 0, .int .u8 0], .agg #[.int .u8 0, .int .u8 0], none, true, false⟩
def ti159 : TI := ⟨.func #[155] #[64] false, 1, 8, .nilFn, .nilFunc, none, false, false⟩
def ti160 : TI := ⟨.func #[37] #[4] false, 1, 8, .nilFn, .nilFunc, none, false, false⟩
def ti161 : TI := ⟨.func #[32, 2] #[3, 4] false, 1, 8, .nilFn, .nilFunc, none, false, false⟩
def ti162 : TI := ⟨.func #[96, 33] #[3] false, 1, 8, .nilFn, .nilFunc, none, false, false⟩
def ti163 : TI := ⟨.func #[68] #[4] false, 1, 8, .nilFn, .nilFunc, none, false, false⟩
def ti164 : TI := ⟨.func #[3, 3, 44] #[4] false, 1, 8, .nilFn, .nilFunc, none, false, false⟩
def ti165 : TI := ⟨.func #[3, 3] #[4] false, 1, 8, .nilFn, .nilFunc, none, false, false⟩
def ti166 : TI := ⟨.func #[66] #[66] false, 1, 8, .nilFn, .nilFunc, none, false, false⟩
def ti167 : TI := ⟨.func #[68, 68] #[3] false, 1, 8, .nilFn, .nilFunc, none, false, false⟩
def ti168 : TI := ⟨.func #[64, 64] #[4] false, 1, 8, .nilFn, .nilFunc, none, false, false⟩
def ti169 : TI := ⟨.func #[66, 44] #[64] false, 1, 8, .nilFn, .nilFunc, none, false, false⟩
def ti170 : TI := ⟨.func #[71] #[37] true, 1, 8, .nilFn, .nilFunc, none, false, false⟩
def ti171 : TI := ⟨.func #[37, 143] #[] false, 1, 8, .nilFn, .nilFunc, none, false, false⟩
def ti173 : TI := ⟨.func #[129] #[109, 39] false, 1, 8, .nilFn, .nilFunc, none, false, false⟩
def ti175 : TI := ⟨.func #[129, 109] #[2, 39] false, 1, 8, .nilFn, .nilFunc, none, false, false⟩
def ti176 : TI := ⟨.pointer 178, 1, 8, .nilP, .pointer none, none, false, false⟩
def ti177 : TI := ⟨.struct #[⟨"l", 109, 0, false, "", "dross/hitset", 0⟩, ⟨"weight", 2, 1, false, "", "dross/hitset", 24⟩], 2, 32, .agg [.nilS, .int .i64 0], .agg #[.slice none 0 0, .int .i64 0], none, true, false⟩
def ti178 : TI := ⟨.struct #[⟨"l", 109, 0, false, "", "dross/hitset", 0⟩, ⟨"weight", 2, 1, false, "", "dross/hitset", 24⟩], 2, 32, .agg [.nilS, .int .i64 0], .agg #[.slice none 0 0, .int .i64 0], none, true, false⟩
def ti179 : TI := ⟨.pointer 216, 1, 8, .nilP, .pointer none, none, false, false⟩
def ti180 : TI := ⟨.func #[129, 3] #[179] false, 1, 8, .nilFn, .nilFunc, none, false, false⟩
def ti181 : TI := ⟨.func #[176, 2] #[4] false, 1, 8, .nilFn, .nilFunc, none, false, false⟩
def ti182 : TI := ⟨.func #[129] #[39] false, 1, 8, .nilFn, .nilFunc, none, false, false⟩
def ti183 : TI := ⟨.func #[2] #[72, 39] false, 1, 8, .nilFn, .nilFunc, none, false, false⟩
def ti184 : TI := ⟨.func #[71, 3, 3, 3, 137] #[] false, 1, 8, .nilFn, .nilFunc, none, false, false⟩
def ti185 : TI := ⟨.func #[186] #[3] false, 1, 8, .nilFn, .nilFunc, none, false, false⟩
def ti186 : TI := ⟨.int .u64, 1, 8, .int .u64 0, .int .u64 0, some (.int .u64), false, false⟩
def ti187 : TI := ⟨.func #[37, 37, 143] #[3] false, 1, 8, .nilFn, .nilFunc, none, false, false⟩
def ti188 : TI := ⟨.func #[2] #[4] false, 1, 8, .nilFn, .nilFunc, none, false, false⟩
def ti189 : TI := ⟨.func #[129, 191, 72] #[3] false, 1, 8, .nilFn, .nilFunc, none, false, false⟩
def ti190 : TI := ⟨.struct #[⟨"Chosen", 109, 0, false, "", "", 0⟩, ⟨"Excluded", 109, 1, false, "", "", 24⟩, ⟨"Bound", 2, 2, false, "", "", 48⟩], 3, 56, .agg [.nilS, .nilS, .int .i64 0], .agg #[.slice none 0 0, .slice none 0 0, .int .i64 0], none, true, false⟩
def ti191 : TI := ⟨.struct #[⟨"Chosen", 109, 0, false, "", "", 0⟩, ⟨"Excluded", 109, 1, false, "", "", 24⟩, ⟨"Bound", 2, 2, false, "", "", 48⟩], 3, 56, .agg [.nilS, .nilS, .int .i64 0], .agg #[.slice none 0 0, .slice none 0 0, .int .i64 0], none, true, false⟩
def ti192 : TI := ⟨.func #[9] #[4] false, 1, 8, .nilFn, .nilFunc, none, false, false⟩
def ti193 : TI := ⟨.func #[29, 9] #[4] false, 1, 8, .nilFn, .nilFunc, none, false, false⟩
def ti194 : TI := ⟨.func #[64] #[4] false, 1, 8, .nilFn, .nilFunc, none, false, false⟩
def ti195 : TI := ⟨.func #[30, 30, 123] #[4] false, 1, 8, .nilFn, .nilFunc, none, false, false⟩
def ti196 : TI := ⟨.func #[109] #[3] true, 1, 8, .nilFn, .nilFunc, none, false, false⟩
def ti197 : TI := ⟨.func #[2, 2] #[3] false, 1, 8, .nilFn, .nilFunc, none, false, false⟩
def ti198 : TI := ⟨.func #[3, 3] #[3] false, 1, 8, .nilFn, .nilFunc, none, false, false⟩
def ti200 : TI := ⟨.func #[72, 2] #[72, 4] false, 1, 8, .nilFn, .nilFunc, none, false, false⟩
def ti201 : TI := ⟨.func #[29] #[4] false, 1, 8, .nilFn, .nilFunc, none, false, false⟩
def ti202 : TI := ⟨.func #[44, 44] #[4] false, 1, 8, .nilFn, .nilFunc, none, false, false⟩
def ti203 : TI := ⟨.func #[30, 204] #[3] false, 1, 8, .nilFn, .nilFunc, none, false, false⟩
def ti204 : TI := ⟨.func #[66] #[4] false, 1, 8, .nilFn, .nilFunc, none, false, false⟩
def ti205 : TI := ⟨.func #[115, 115, 44] #[4] false, 1, 8, .nilFn, .nilFunc, none, false, false⟩
def ti206 : TI := ⟨.func #[9, 9] #[3] false, 1, 8, .nilFn, .nilFunc, none, false, false⟩
def ti207 : TI := ⟨.func #[64, 64] #[3] false, 1, 8, .nilFn, .nilFunc, none, false, false⟩
def ti208 : TI := ⟨.func #[44, 3] #[4] false, 1, 8, .nilFn, .nilFunc, none, false, false⟩
def ti209 : TI := ⟨.func #[37, 3, 3, 3, 143] #[] false, 1, 8, .nilFn, .nilFunc, none, false, false⟩
def ti210 : TI := ⟨.func #[109, 198] #[] false, 1, 8, .nilFn, .nilFunc, none, false, false⟩
def ti211 : TI := ⟨.func #[109, 212] #[4] false, 1, 8, .nilFn, .nilFunc, none, false, false⟩
def ti212 : TI := ⟨.func #[3] #[4] false, 1, 8, .nilFn, .nilFunc, none, false, false⟩
def ti213 : TI := ⟨.func #[109] #[] false, 1, 8, .nilFn, .nilFunc, none, false, false⟩
def ti214 : TI := ⟨.func #[109, 3] #[4] false, 1, 8, .nilFn, .nilFunc, none, false, false⟩
def ti215 : TI := ⟨.struct #[⟨"in", 129, 0, false, "", "dross/hitset", 0⟩, ⟨"marks", 109, 2, false, "", "dross/hitset", 48⟩, ⟨"left", 3, 3, false, "", "dross/hitset", 72⟩], 4, 80, .agg [.nilS, .nilS, .nilS, .int .i64 0], .agg #[.slice none 0 0, .slice none 0 0, .slice none 0 0, .int .i64 0], none, true, false⟩
def ti216 : TI := ⟨.struct #[⟨"in", 129, 0, false, "", "dross/hitset", 0⟩, ⟨"marks", 109, 2, false, "", "dross/hitset", 48⟩, ⟨"left", 3, 3, false, "", "dross/hitset", 72⟩], 4, 80, .agg [.nilS, .nilS, .nilS, .int .i64 0], .agg #[.slice none 0 0, .slice none 0 0, .slice none 0 0, .int .i64 0], none, true, false⟩
def ti218 : TI := ⟨.func #[] #[88, 2] false, 1, 8, .nilFn, .nilFunc, none, false, false⟩
def ti219 : TI := ⟨.func #[] #[3] false, 1, 8, .nilFn, .nilFunc, none, false, false⟩
def ti220 : TI := ⟨.func #[249] #[72] true, 1, 8, .nilFn, .nilFunc, none, false, false⟩
def ti221 : TI := ⟨.func #[71, 3, 3, 137] #[] false, 1, 8, .nilFn, .nilFunc, none, false, false⟩
def ti222 : TI := ⟨.int .i64, 1, 8, .int .i64 0, .int .i64 0, some (.int .i64), false, false⟩
def ti224 : TI := ⟨.func #[71, 3, 3, 137] #[3, 222] false, 1, 8, .nilFn, .nilFunc, none, false, false⟩
def ti225 : TI := ⟨.func #[71, 3, 3, 137] #[4] false, 1, 8, .nilFn, .nilFunc, none, false, false⟩
def ti226 : TI := ⟨.func #[71, 3, 3, 3, 137] #[3] false, 1, 8, .nilFn, .nilFunc, none, false, false⟩
def ti227 : TI := ⟨.func #[71, 3, 3, 3, 137] #[3, 4] false, 1, 8, .nilFn, .nilFunc, none, false, false⟩
def ti228 : TI := ⟨.func #[43] #[3] false, 1, 8, .nilFn, .nilFunc, none, false, false⟩
def ti229 : TI := ⟨.func #[230] #[3] false, 1, 8, .nilFn, .nilFunc, none, false, false⟩
def ti230 : TI := ⟨.int .u64, 1, 8, .int .u64 0, .int .u64 0, some (.int .u64), false, false⟩
def ti231 : TI := ⟨.func #[129, 191] #[4] false, 1, 8, .nilFn, .nilFunc, none, false, false⟩
def ti232 : TI := ⟨.func #[129, 191, 88] #[4] false, 1, 8, .nilFn, .nilFunc, none, false, false⟩
def ti233 : TI := ⟨.func #[29, 9] #[3] false, 1, 8, .nilFn, .nilFunc, none, false, false⟩
def ti234 : TI := ⟨.func #[64, 163] #[4] false, 1, 8, .nilFn, .nilFunc, none, false, false⟩
def ti235 : TI := ⟨.func #[88, 2] #[4] false, 1, 8, .nilFn, .nilFunc, none, false, false⟩
def ti236 : TI := ⟨.func #[5] #[4] false, 1, 8, .nilFn, .nilFunc, none, false, false⟩
def ti237 : TI := ⟨.func #[37, 3, 3, 143] #[] false, 1, 8, .nilFn, .nilFunc, none, false, false⟩
def ti238 : TI := ⟨.func #[37, 3, 3, 143] #[3, 222] false, 1, 8, .nilFn, .nilFunc, none, false, false⟩
def ti239 : TI := ⟨.func #[37, 3, 3, 143] #[4] false, 1, 8, .nilFn, .nilFunc, none, false, false⟩
def ti240 : TI := ⟨.func #[37, 3, 3, 3, 143] #[3] false, 1, 8, .nilFn, .nilFunc, none, false, false⟩
def ti241 : TI := ⟨.func #[37, 3, 3, 3, 143] #[3, 4] false, 1, 8, .nilFn, .nilFunc, none, false, false⟩
def ti242 : TI := ⟨.func #[109, 3, 198] #[] false, 1, 8, .nilFn, .nilFunc, none, false, false⟩
def ti243 : TI := ⟨.func #[109, 212] #[3] false, 1, 8, .nilFn, .nilFunc, none, false, false⟩
def ti244 : TI := ⟨.func #[109, 3, 3, 3] #[] false, 1, 8, .nilFn, .nilFunc, none, false, false⟩
def ti245 : TI := ⟨.func #[109, 3] #[3] false, 1, 8, .nilFn, .nilFunc, none, false, false⟩
def ti246 : TI := ⟨.func #[127, 247] #[4] false, 1, 8, .nilFn, .nilFunc, none, false, false⟩
def ti247 : TI := ⟨.func #[109] #[4] false, 1, 8, .nilFn, .nilFunc, none, false, false⟩
def ti248 : TI := ⟨.func #[126] #[126] false, 1, 8, .nilFn, .nilFunc, none, false, false⟩
def ti249 : TI := ⟨.slice 72, 1, 24, .nilS, .slice none 0 0, none, false, false⟩
def ti250 : TI := ⟨.func #[72, 3] #[72] false, 1, 8, .nilFn, .nilFunc, none, false, false⟩
def ti251 : TI := ⟨.int .u64, 1, 8, .int .u64 0, .int .u64 0, some (.int .u64), false, false⟩
def ti252 : TI := ⟨.func #[3] #[186] false, 1, 8, .nilFn, .nilFunc, none, false, false⟩
def ti253 : TI := ⟨.func #[] #[230] false, 1, 8, .nilFn, .nilFunc, none, false, false⟩
def ti254 : TI := ⟨.func #[71, 3, 255, 137] #[3] false, 1, 8, .nilFn, .nilFunc, none, false, false⟩
def ti255 : TI := ⟨.pointer 3, 1, 8, .nilP, .pointer none, none, false, false⟩
def ti256 : TI := ⟨.func #[71, 3, 3, 3, 255, 137] #[3] false, 1, 8, .nilFn, .nilFunc, none, false, false⟩
def ti257 : TI := ⟨.func #[109, 109] #[4] false, 1, 8, .nilFn, .nilFunc, none, false, false⟩
def ti258 : TI := ⟨.func #[64, 163] #[3] false, 1, 8, .nilFn, .nilFunc, none, false, false⟩
def ti259 : TI := ⟨.func #[37, 3, 255, 143] #[3] false, 1, 8, .nilFn, .nilFunc, none, false, false⟩
def ti260 : TI := ⟨.func #[37, 3, 3, 3, 255, 143] #[3] false, 1, 8, .nilFn, .nilFunc, none, false, false⟩
def ti261 : TI := ⟨.func #[109, 3, 3, 198] #[] false, 1, 8, .nilFn, .nilFunc, none, false, false⟩
def ti262 : TI := ⟨.func #[109, 3, 3, 3, 198] #[] false, 1, 8, .nilFn, .nilFunc, none, false, false⟩
def ti263 : TI := ⟨.func #[109, 3, 3] #[] false, 1, 8, .nilFn, .nilFunc, none, false, false⟩
def ti264 : TI := ⟨.func #[109, 3, 3] #[3, 222] false, 1, 8, .nilFn, .nilFunc, none, false, false⟩
def ti265 : TI := ⟨.func #[109, 3, 3] #[4] false, 1, 8, .nilFn, .nilFunc, none, false, false⟩
def ti266 : TI := ⟨.func #[109, 3, 3, 3] #[3] false, 1, 8, .nilFn, .nilFunc, none, false, false⟩
def ti267 : TI := ⟨.func #[109, 3, 3, 3] #[3, 4] false, 1, 8, .nilFn, .nilFunc, none, false, false⟩
def ti268 : TI := ⟨.func #[127, 247] #[3] false, 1, 8, .nilFn, .nilFunc, none, false, false⟩
def ti269 : TI := ⟨.pointer 251, 1, 8, .nilP, .pointer none, none, false, false⟩
def ti271 : TI := ⟨.func #[71, 3, 3, 255, 137] #[3, 3] false, 1, 8, .nilFn, .nilFunc, none, false, false⟩
def ti272 : TI := ⟨.func #[37, 3, 3, 255, 143] #[3, 3] false, 1, 8, .nilFn, .nilFunc, none, false, false⟩
def ti273 : TI := ⟨.func #[109, 3, 255] #[3] false, 1, 8, .nilFn, .nilFunc, none, false, false⟩
def ti274 : TI := ⟨.func #[109, 3, 3, 3, 255] #[3] false, 1, 8, .nilFn, .nilFunc, none, false, false⟩
def ti275 : TI := ⟨.func #[109, 3, 3, 255] #[3, 3] false, 1, 8, .nilFn, .nilFunc, none, false, false⟩
def ti276 : TI := ⟨.func #[] #[9] false, 1, 8, .nilFn, .nilFunc, none, false, false⟩
def ti277 : TI := ⟨.struct #[⟨"_interface", 17, 0, false, "", "runtime", 0⟩, ⟨"concrete", 17, 1, false, "", "runtime", 8⟩, ⟨"asserted", 17, 2, false, "", "runtime", 16⟩, ⟨"missingMethod", 9, 3, false, "", "runtime", 24⟩], 4, 40, .agg [.nilP, .nilP, .nilP, .str ByteArray.empty], .agg #[.pointer none, .pointer none, .pointer none, .string ByteArray.empty], none, false, false⟩
def ti278 : TI := ⟨.struct #[⟨"_interface", 17, 0, false, "", "runtime", 0⟩, ⟨"concrete", 17, 1, false, "", "runtime", 8⟩, ⟨"asserted", 17, 2, false, "", "runtime", 16⟩, ⟨"missingMethod", 9, 3, false, "", "runtime", 24⟩], 4, 40, .agg [.nilP, .nilP, .nilP, .str ByteArray.empty], .agg #[.pointer none, .pointer none, .pointer none, .string ByteArray.empty], none, false, false⟩
def ti279 : TI := ⟨.array 0 16, 0, 0, .agg [], .agg #[], none, true, false⟩
def ti280 : TI := ⟨.struct #[⟨"_", 279, 0, false, "", "runtime", 0⟩], 0, 0, .agg [], .agg #[], none, false, false⟩
def ti281 : TI := ⟨.struct #[⟨"_", 279, 0, false, "", "runtime", 0⟩], 0, 0, .agg [], .agg #[], none, false, false⟩
def ti282 : TI := ⟨.int .u8, 1, 1, .int .u8 0, .int .u8 0, some (.int .u8), false, false⟩
def ti283 : TI := ⟨.int .u8, 1, 1, .int .u8 0, .int .u8 0, some (.int .u8), false, false⟩
def ti284 : TI := ⟨.func #[290, 290] #[4] false, 1, 8, .nilFn, .nilFunc, none, false, false⟩
def ti285 : TI := ⟨.pointer 5, 1, 8, .nilP, .pointer none, none, false, false⟩
def ti286 : TI := ⟨.int .i32, 1, 4, .int .i32 0, .int .i32 0, some (.int .i32), false, false⟩
def ti287 : TI := ⟨.int .i32, 1, 4, .int .i32 0, .int .i32 0, some (.int .i32), false, false⟩
def ti288 : TI := ⟨.struct #[⟨"Size_", 12, 0, false, "", "", 0⟩, ⟨"PtrBytes", 12, 1, false, "", "", 8⟩, ⟨"Hash", 43, 2, false, "", "", 16⟩, ⟨"TFlag", 282, 3, false, "", "", 20⟩, ⟨"Align_", 5, 4, false, "", "", 21⟩, ⟨"FieldAlign_", 5, 5, false, "", "", 22⟩, ⟨"Kind_", 283, 6, false, "", "", 23⟩, ⟨"Equal", 284, 7, false, "", "", 24⟩, ⟨"GCData", 285, 8, false, "", "", 32⟩, ⟨"Str", 286, 9, false, "", "", 40⟩, ⟨"PtrToThis", 287, 10, false, "", "", 44⟩], 11, 48, .agg [.int .u64 0, .int .u64 0, .int .u32 0, .int .u8 0, .int .u8 0, .int .u8 0, .int .u8 0, .nilFn, .nilP, .int .i32 0, .int .i32 0], .agg #[.int .u64 0, .int .u64 0, .int .u32 0, .int .u8 0, .int .u8 0, .int .u8 0, .int .u8 0, .nilFunc, .pointer none, .int .i32 0, .int .i32 0], none, false, false⟩
def ti289 : TI := ⟨.struct #[⟨"Size_", 12, 0, false, "", "", 0⟩, ⟨"PtrBytes", 12, 1, false, "", "", 8⟩, ⟨"Hash", 43, 2, false, "", "", 16⟩, ⟨"TFlag", 282, 3, false, "", "", 20⟩, ⟨"Align_", 5, 4, false, "", "", 21⟩, ⟨"FieldAlign_", 5, 5, false, "", "", 22⟩, ⟨"Kind_", 283, 6, false, "", "", 23⟩, ⟨"Equal", 284, 7, false, "", "", 24⟩, ⟨"GCData", 285, 8, false, "", "", 32⟩, ⟨"Str", 286, 9, false, "", "", 40⟩, ⟨"PtrToThis", 287, 10, false, "", "", 44⟩], 11, 48, .agg [.int .u64 0, .int .u64 0, .int .u32 0, .int .u8 0, .int .u8 0, .int .u8 0, .int .u8 0, .nilFn, .nilP, .int .i32 0, .int .i32 0], .agg #[.int .u64 0, .int .u64 0, .int .u32 0, .int .u8 0, .int .u8 0, .int .u8 0, .int .u8 0, .nilFunc, .pointer none, .int .i32 0, .int .i32 0], none, false, false⟩
def tys : List (Option TI) := [none, some ti1, some ti2, some ti3, some ti4, some ti5, some ti6, some ti7, some ti8, some ti9, some ti10, some ti11, some ti12, some ti13, some ti14, some ti15, some ti16, some ti17, some ti18, some ti19, none, some ti21, some ti22, some ti23, some ti24, some ti25, some ti26, some ti27, some ti28, some ti29, some ti30, some ti31, some ti32, some ti33, none, some ti35, some ti36, some ti37, some ti38, some ti39, none, some ti41, some ti42, some ti43, some ti44, some ti45, some ti46, some ti47, some ti48, some ti49, some ti50, some ti51, some ti52, some ti53, some ti54, none, some ti56, some ti57, some ti58, none, some ti60, none, some ti62, some ti63, some ti64, some ti65, some ti66, some ti67, some ti68, some ti69, some ti70, some ti71, some ti72, some ti73, some ti74, none, some ti76, some ti77, some ti78, some ti79, some ti80, some ti81, some ti82, some ti83, some ti84, some ti85, some ti86, some ti87, some ti88, some ti89, some ti90, some ti91, some ti92, some ti93, some ti94, some ti95, some ti96, none, some ti98, some ti99, some ti100, some ti101, some ti102, some ti103, some ti104, some ti105, some ti106, some ti107, some ti108, some ti109, some ti110, some ti111, some ti112, some ti113, none, some ti115, some ti116, some ti117, some ti118, some ti119, some ti120, some ti121, some ti122, some ti123, some ti124, some ti125, some ti126, some ti127, some ti128, some ti129, none, some ti131, none, some ti133, none, some ti135, some ti136, some ti137, some ti138, some ti139, some ti140, none, some ti142, some ti143, some ti144, some ti145, some ti146, some ti147, some ti148, some ti149, some ti150, some ti151, some ti152, some ti153, some ti154, some ti155, some ti156, some ti157, some ti158, some ti159, some ti160, some ti161, some ti162, some ti163, some ti164, some ti165, some ti166, some ti167, some ti168, some ti169, some ti170, some ti171, none, some ti173, none, some ti175, some ti176, some ti177, some ti178, some ti179, some ti180, some ti181, some ti182, some ti183, some ti184, some ti185, some ti186, some ti187, some ti188, some ti189, some ti190, some ti191, some ti192, some ti193, some ti194, some ti195, some ti196, some ti197, some ti198, none, some ti200, some ti201, some ti202, some ti203, some ti204, some ti205, some ti206, some ti207, some ti208, some ti209, some ti210, some ti211, some ti212, some ti213, some ti214, some ti215, some ti216, none, some ti218, some ti219, some ti220, some ti221, some ti222, none, some ti224, some ti225, some ti226, some ti227, some ti228, some ti229, some ti230, some ti231, some ti232, some ti233, some ti234, some ti235, some ti236, some ti237, some ti238, some ti239, some ti240, some ti241, some ti242, some ti243, some ti244, some ti245, some ti246, some ti247, some ti248, some ti249, some ti250, some ti251, some ti252, some ti253, some ti254, some ti255, some ti256, some ti257, some ti258, some ti259, some ti260, some ti261, some ti262, some ti263, some ti264, some ti265, some ti266, some ti267, some ti268, some ti269, none, some ti271, some ti272, some ti273, some ti274, some ti275, some ti276, some ti277, some ti278, some ti279, some ti280, some ti281, some ti282, some ti283, some ti284, some ti285, some ti286, some ti287, some ti288, some ti289]
def T : Ty := fun t => (tys[t]?).getD none
@[simp] theorem T_1 : T 1 = some ⟨.func #[] #[] false, 1, 8, .nilFn, .nilFunc, none, false, false⟩ := rfl
@[simp] theorem T_2 : T 2 = some ⟨.int .i64, 1, 8, .int .i64 0, .int .i64 0, some (.int .i64), false, false⟩ := rfl
@[simp] theorem T_3 : T 3 = some ⟨.int .i64, 1, 8, .int .i64 0, .int .i64 0, some (.int .i64), false, false⟩ := rfl
@[simp] theorem T_4 : T 4 = some ⟨.bool, 1, 1, .bool false, .bool false, some .bool, false, false⟩ := rfl
@[simp] theorem T_5 : T 5 = some ⟨.int .u8, 1, 1, .int .u8 0, .int .u8 0, some (.int .u8), false, false⟩ := rfl
@[simp] theorem T_6 : T 6 = some ⟨.int .u8, 1, 1, .int .u8 0, .int .u8 0, some (.int .u8), false, false⟩ := rfl
@[simp] theorem T_7 : T 7 = some ⟨.struct #[⟨"x", 2, 0, false, "", "runtime", 0⟩, ⟨"y", 3, 1, false, "", "runtime", 8⟩, ⟨"signed", 4, 2, false, "", "runtime", 16⟩, ⟨"code", 6, 3, false, "", "runtime", 17⟩], 4, 24, .agg [.int .i64 0, .int .i64 0, .bool false, .int .u8 0], .agg #[.int .i64 0, .int .i64 0, .bool false, .int .u8 0], none, true, false⟩ := rfl
@[simp] theorem T_8 : T 8 = some ⟨.struct #[⟨"x", 2, 0, false, "", "runtime", 0⟩, ⟨"y", 3, 1, false, "", "runtime", 8⟩, ⟨"signed", 4, 2, false, "", "runtime", 16⟩, ⟨"code", 6, 3, false, "", "runtime", 17⟩], 4, 24, .agg [.int .i64 0, .int .i64 0, .bool false, .int .u8 0], .agg #[.int .i64 0, .int .i64 0, .bool false, .int .u8 0], none, true, false⟩ := rfl
@[simp] theorem T_9 : T 9 = some ⟨.string, 1, 16, .str ByteArray.empty, .string ByteArray.empty, some .str, false, false⟩ := rfl
@[simp] theorem T_10 : T 10 = some ⟨.string, 1, 16, .str ByteArray.empty, .string ByteArray.empty, some .str, false, false⟩ := rfl
@[simp] theorem T_11 : T 11 = some ⟨.string, 1, 16, .str ByteArray.empty, .string ByteArray.empty, some .str, false, false⟩ := rfl
@[simp] theorem T_12 : T 12 = some ⟨.int .u64, 1, 8, .int .u64 0, .int .u64 0, some (.int .u64), false, false⟩ := rfl
@[simp] theorem T_13 : T 13 = some ⟨.struct #[⟨"msg", 9, 0, false, "", "runtime", 0⟩, ⟨"addr", 12, 1, false, "", "runtime", 16⟩], 2, 24, .agg [.str ByteArray.empty, .int .u64 0], .agg #[.string ByteArray.empty, .int .u64 0], none, false, false⟩ := rfl
@[simp] theorem T_14 : T 14 = some ⟨.struct #[⟨"msg", 9, 0, false, "", "runtime", 0⟩, ⟨"addr", 12, 1, false, "", "runtime", 16⟩], 2, 24, .agg [.str ByteArray.empty, .int .u64 0], .agg #[.string ByteArray.empty, .int .u64 0], none, false, false⟩ := rfl
@[simp] theorem T_15 : T 15 = some ⟨.pointer 278, 1, 8, .nilP, .pointer none, none, false, false⟩ := rfl
@[simp] theorem T_16 : T 16 = some ⟨.pointer 281, 1, 8, .nilP, .pointer none, none, false, false⟩ := rfl
@[simp] theorem T_17 : T 17 = some ⟨.pointer 289, 1, 8, .nilP, .pointer none, none, false, false⟩ := rfl
@[simp] theorem T_18 : T 18 = some ⟨.struct #[⟨"typ", 17, 0, false, "", "internal/runtime/maps", 0⟩], 1, 8, .agg [.nilP], .agg #[.pointer none], none, false, false⟩ := rfl
@[simp] theorem T_19 : T 19 = some ⟨.struct #[⟨"typ", 17, 0, false, "", "internal/runtime/maps", 0⟩], 1, 8, .agg [.nilP], .agg #[.pointer none], none, false, false⟩ := rfl
@[simp] theorem T_21 : T 21 = some ⟨.int .i32, 1, 4, .int .i32 0, .int .i32 0, some (.int .i32), false, false⟩ := rfl
@[simp] theorem T_22 : T 22 = some ⟨.slice 155, 1, 24, .nilS, .slice none 0 0, none, false, false⟩ := rfl
@[simp] theorem T_23 : T 23 = some ⟨.struct #[⟨"Attrs", 5, 0, false, "", "", 0⟩, ⟨"Gap", 5, 1, false, "", "", 1⟩, ⟨"Rows", 22, 2, false, "", "", 8⟩], 3, 32, .agg [.int .u8 0, .int .u8 0, .nilS], .agg #[.int .u8 0, .int .u8 0, .slice none 0 0], none, true, false⟩ := rfl
@[simp] theorem T_24 : T 24 = some ⟨.struct #[⟨"Attrs", 5, 0, false, "", "", 0⟩, ⟨"Gap", 5, 1, false, "", "", 1⟩, ⟨"Rows", 22, 2, false, "", "", 8⟩], 3, 32, .agg [.int .u8 0, .int .u8 0, .nilS], .agg #[.int .u8 0, .int .u8 0, .slice none 0 0], none, true, false⟩ := rfl
@[simp] theorem T_25 : T 25 = some ⟨.slice 158, 1, 24, .nilS, .slice none 0 0, none, false, false⟩ := rfl
@[simp] theorem T_26 : T 26 = some ⟨.struct #[⟨"T", 24, 0, false, "", "", 0⟩, ⟨"F", 25, 3, false, "", "", 32⟩], 4, 56, .agg [.int .u8 0, .int .u8 0, .nilS, .nilS], .agg #[.int .u8 0, .int .u8 0, .slice none 0 0, .slice none 0 0], none, true, false⟩ := rfl
@[simp] theorem T_27 : T 27 = some ⟨.struct #[⟨"T", 24, 0, false, "", "", 0⟩, ⟨"F", 25, 3, false, "", "", 32⟩], 4, 56, .agg [.int .u8 0, .int .u8 0, .nilS, .nilS], .agg #[.int .u8 0, .int .u8 0, .slice none 0 0, .slice none 0 0], none, true, false⟩ := rfl
@[simp] theorem T_28 : T 28 = some ⟨.int .u16, 1, 2, .int .u16 0, .int .u16 0, some (.int .u16), false, false⟩ := rfl
@[simp] theorem T_29 : T 29 = some ⟨.slice 9, 1, 24, .nilS, .slice none 0 0, none, false, false⟩ := rfl
@[simp] theorem T_30 : T 30 = some ⟨.slice 66, 1, 24, .nilS, .slice none 0 0, none, false, false⟩ := rfl
@[simp] theorem T_31 : T 31 = some ⟨.struct #[⟨"Name", 9, 0, false, "", "", 0⟩, ⟨"Attrs", 29, 1, false, "", "", 16⟩, ⟨"Rows", 30, 2, false, "", "", 40⟩], 3, 64, .agg [.str ByteArray.empty, .nilS, .nilS], .agg #[.string ByteArray.empty, .slice none 0 0, .slice none 0 0], none, true, false⟩ := rfl
@[simp] theorem T_32 : T 32 = some ⟨.struct #[⟨"Name", 9, 0, false, "", "", 0⟩, ⟨"Attrs", 29, 1, false, "", "", 16⟩, ⟨"Rows", 30, 2, false, "", "", 40⟩], 3, 64, .agg [.str ByteArray.empty, .nilS, .nilS], .agg #[.string ByteArray.empty, .slice none 0 0, .slice none 0 0], none, true, false⟩ := rfl
@[simp] theorem T_33 : T 33 = some ⟨.slice 46, 1, 24, .nilS, .slice none 0 0, none, false, false⟩ := rfl
@[simp] theorem T_35 : T 35 = some ⟨.func #[27] #[32, 33, 4] false, 1, 8, .nilFn, .nilFunc, none, false, false⟩ := rfl
@[simp] theorem T_36 : T 36 = some ⟨.func #[] #[4] false, 1, 8, .nilFn, .nilFunc, none, false, false⟩ := rfl
@[simp] theorem T_37 : T 37 = some ⟨.slice 49, 1, 24, .nilS, .slice none 0 0, none, false, false⟩ := rfl
@[simp] theorem T_38 : T 38 = some ⟨.func #[32, 28] #[37] false, 1, 8, .nilFn, .nilFunc, none, false, false⟩ := rfl
@[simp] theorem T_39 : T 39 = some ⟨.int .i64, 1, 8, .int .i64 0, .int .i64 0, some (.int .i64), false, false⟩ := rfl
@[simp] theorem T_41 : T 41 = some ⟨.func #[32, 33, 37] #[4, 39] false, 1, 8, .nilFn, .nilFunc, none, false, false⟩ := rfl
@[simp] theorem T_42 : T 42 = some ⟨.func #[33] #[33] false, 1, 8, .nilFn, .nilFunc, none, false, false⟩ := rfl
@[simp] theorem T_43 : T 43 = some ⟨.int .u32, 1, 4, .int .u32 0, .int .u32 0, some (.int .u32), false, false⟩ := rfl
@[simp] theorem T_44 : T 44 = some ⟨.int .u32, 1, 4, .int .u32 0, .int .u32 0, some (.int .u32), false, false⟩ := rfl
@[simp] theorem T_45 : T 45 = some ⟨.struct #[⟨"Lhs", 44, 0, false, "", "", 0⟩, ⟨"Rhs", 44, 1, false, "", "", 4⟩], 2, 8, .agg [.int .u32 0, .int .u32 0], .agg #[.int .u32 0, .int .u32 0], none, true, false⟩ := rfl
@[simp] theorem T_46 : T 46 = some ⟨.struct #[⟨"Lhs", 44, 0, false, "", "", 0⟩, ⟨"Rhs", 44, 1, false, "", "", 4⟩], 2, 8, .agg [.int .u32 0, .int .u32 0], .agg #[.int .u32 0, .int .u32 0], none, true, false⟩ := rfl
@[simp] theorem T_47 : T 47 = some ⟨.func #[37] #[37] false, 1, 8, .nilFn, .nilFunc, none, false, false⟩ := rfl
@[simp] theorem T_48 : T 48 = some ⟨.struct #[⟨"ID", 2, 0, false, "", "", 0⟩, ⟨"Attr", 3, 1, false, "", "", 8⟩], 2, 16, .agg [.int .i64 0, .int .i64 0], .agg #[.int .i64 0, .int .i64 0], none, true, false⟩ := rfl
@[simp] theorem T_49 : T 49 = some ⟨.struct #[⟨"ID", 2, 0, false, "", "", 0⟩, ⟨"Attr", 3, 1, false, "", "", 8⟩], 2, 16, .agg [.int .i64 0, .int .i64 0], .agg #[.int .i64 0, .int .i64 0], none, true, false⟩ := rfl
@[simp] theorem T_50 : T 50 = some ⟨.func #[32, 33, 37] #[4] false, 1, 8, .nilFn, .nilFunc, none, false, false⟩ := rfl
@[simp] theorem T_51 : T 51 = some ⟨.func #[27, 28, 28] #[4] false, 1, 8, .nilFn, .nilFunc, none, false, false⟩ := rfl
@[simp] theorem T_52 : T 52 = some ⟨.array 2 5, 2, 2, .agg [.int .u8 0, .int .u8 0], .agg #[.int .u8 0, .int .u8 0], none, true, false⟩ := rfl
@[simp] theorem T_53 : T 53 = some ⟨.func #[32] #[37] false, 1, 8, .nilFn, .nilFunc, none, false, false⟩ := rfl
@[simp] theorem T_54 : T 54 = some ⟨.func #[27, 52] #[4] false, 1, 8, .nilFn, .nilFunc, none, false, false⟩ := rfl
@[simp] theorem T_56 : T 56 = some ⟨.func #[32, 33, 37] #[37, 39] false, 1, 8, .nilFn, .nilFunc, none, false, false⟩ := rfl
@[simp] theorem T_57 : T 57 = some ⟨.func #[32, 37] #[37] false, 1, 8, .nilFn, .nilFunc, none, false, false⟩ := rfl
@[simp] theorem T_58 : T 58 = some ⟨.func #[27, 28] #[4] false, 1, 8, .nilFn, .nilFunc, none, false, false⟩ := rfl
@[simp] theorem T_60 : T 60 = some ⟨.func #[32, 33, 37] #[32, 39] false, 1, 8, .nilFn, .nilFunc, none, false, false⟩ := rfl
@[simp] theorem T_62 : T 62 = some ⟨.func #[32, 33, 37] #[3, 39] false, 1, 8, .nilFn, .nilFunc, none, false, false⟩ := rfl
@[simp] theorem T_63 : T 63 = some ⟨.func #[32, 32] #[4] false, 1, 8, .nilFn, .nilFunc, none, false, false⟩ := rfl
@[simp] theorem T_64 : T 64 = some ⟨.slice 68, 1, 24, .nilS, .slice none 0 0, none, false, false⟩ := rfl
@[simp] theorem T_65 : T 65 = some ⟨.struct #[⟨"ID", 2, 0, false, "", "", 0⟩, ⟨"Values", 64, 1, false, "", "", 8⟩], 2, 32, .agg [.int .i64 0, .nilS], .agg #[.int .i64 0, .slice none 0 0], none, true, false⟩ := rfl
@[simp] theorem T_66 : T 66 = some ⟨.struct #[⟨"ID", 2, 0, false, "", "", 0⟩, ⟨"Values", 64, 1, false, "", "", 8⟩], 2, 32, .agg [.int .i64 0, .nilS], .agg #[.int .i64 0, .slice none 0 0], none, true, false⟩ := rfl
@[simp] theorem T_67 : T 67 = some ⟨.struct #[⟨"Kind", 3, 0, false, "", "", 0⟩, ⟨"Num", 2, 1, false, "", "", 8⟩, ⟨"Str", 9, 2, false, "", "", 16⟩], 3, 32, .agg [.int .i64 0, .int .i64 0, .str ByteArray.empty], .agg #[.int .i64 0, .int .i64 0, .string ByteArray.empty], none, true, false⟩ := rfl
@[simp] theorem T_68 : T 68 = some ⟨.struct #[⟨"Kind", 3, 0, false, "", "", 0⟩, ⟨"Num", 2, 1, false, "", "", 8⟩, ⟨"Str", 9, 2, false, "", "", 16⟩], 3, 32, .agg [.int .i64 0, .int .i64 0, .str ByteArray.empty], .agg #[.int .i64 0, .int .i64 0, .string ByteArray.empty], none, true, false⟩ := rfl
@[simp] theorem T_69 : T 69 = some ⟨.func #[37, 49] #[4] false, 1, 8, .nilFn, .nilFunc, none, false, false⟩ := rfl
@[simp] theorem T_70 : T 70 = some ⟨.func #[32, 33] #[4] false, 1, 8, .nilFn, .nilFunc, none, false, false⟩ := rfl
@[simp] theorem T_71 : T 71 = some ⟨.slice 37, 1, 24, .nilS, .slice none 0 0, none, false, false⟩ := rfl
@[simp] theorem T_72 : T 72 = some ⟨.slice 90, 1, 24, .nilS, .slice none 0 0, none, false, false⟩ := rfl
@[simp] theorem T_73 : T 73 = some ⟨.struct #[⟨"Cells", 37, 0, false, "", "", 0⟩, ⟨"Table", 32, 1, false, "", "", 24⟩, ⟨"Cores", 71, 4, false, "", "", 88⟩, ⟨"Proof", 72, 5, false, "", "", 112⟩], 6, 136, .agg [.nilS, .str ByteArray.empty, .nilS, .nilS, .nilS, .nilS], .agg #[.slice none 0 0, .string ByteArray.empty, .slice none 0 0, .slice none 0 0, .slice none 0 0, .slice none 0 0], none, true, false⟩ := rfl
@[simp] theorem T_74 : T 74 = some ⟨.struct #[⟨"Cells", 37, 0, false, "", "", 0⟩, ⟨"Table", 32, 1, false, "", "", 24⟩, ⟨"Cores", 71, 4, false, "", "", 88⟩, ⟨"Proof", 72, 5, false, "", "", 112⟩], 6, 136, .agg [.nilS, .str ByteArray.empty, .nilS, .nilS, .nilS, .nilS], .agg #[.slice none 0 0, .string ByteArray.empty, .slice none 0 0, .slice none 0 0, .slice none 0 0, .slice none 0 0], none, true, false⟩ := rfl
@[simp] theorem T_76 : T 76 = some ⟨.func #[32, 33, 3] #[74, 39] false, 1, 8, .nilFn, .nilFunc, none, false, false⟩ := rfl
@[simp] theorem T_77 : T 77 = some ⟨.func #[32, 33, 74] #[4] false, 1, 8, .nilFn, .nilFunc, none, false, false⟩ := rfl
@[simp] theorem T_78 : T 78 = some ⟨.func #[32, 33] #[3] false, 1, 8, .nilFn, .nilFunc, none, false, false⟩ := rfl
@[simp] theorem T_79 : T 79 = some ⟨.func #[27] #[4] false, 1, 8, .nilFn, .nilFunc, none, false, false⟩ := rfl
@[simp] theorem T_80 : T 80 = some ⟨.int .i8, 1, 1, .int .i8 0, .int .i8 0, some (.int .i8), false, false⟩ := rfl
@[simp] theorem T_81 : T 81 = some ⟨.struct #[⟨"Kind", 5, 0, false, "", "", 0⟩, ⟨"At", 5, 1, false, "", "", 1⟩, ⟨"By", 80, 2, false, "", "", 2⟩], 3, 3, .agg [.int .u8 0, .int .u8 0, .int .i8 0], .agg #[.int .u8 0, .int .u8 0, .int .i8 0], none, true, false⟩ := rfl
@[simp] theorem T_82 : T 82 = some ⟨.struct #[⟨"Kind", 5, 0, false, "", "", 0⟩, ⟨"At", 5, 1, false, "", "", 1⟩, ⟨"By", 80, 2, false, "", "", 2⟩], 3, 3, .agg [.int .u8 0, .int .u8 0, .int .i8 0], .agg #[.int .u8 0, .int .u8 0, .int .i8 0], none, true, false⟩ := rfl
@[simp] theorem T_83 : T 83 = some ⟨.array 2 82, 6, 6, .agg [.int .u8 0, .int .u8 0, .int .i8 0, .int .u8 0, .int .u8 0, .int .i8 0], .agg #[.int .u8 0, .int .u8 0, .int .i8 0, .int .u8 0, .int .u8 0, .int .i8 0], none, true, false⟩ := rfl
@[simp] theorem T_84 : T 84 = some ⟨.func #[32, 74, 82] #[74] false, 1, 8, .nilFn, .nilFunc, none, false, false⟩ := rfl
@[simp] theorem T_85 : T 85 = some ⟨.func #[27, 83] #[4] false, 1, 8, .nilFn, .nilFunc, none, false, false⟩ := rfl
@[simp] theorem T_86 : T 86 = some ⟨.func #[32, 33, 37] #[39] false, 1, 8, .nilFn, .nilFunc, none, false, false⟩ := rfl
@[simp] theorem T_87 : T 87 = some ⟨.func #[32, 33] #[39] false, 1, 8, .nilFn, .nilFunc, none, false, false⟩ := rfl
@[simp] theorem T_88 : T 88 = some ⟨.slice 151, 1, 24, .nilS, .slice none 0 0, none, false, false⟩ := rfl
@[simp] theorem T_89 : T 89 = some ⟨.struct #[⟨"Vertex", 3, 0, false, "", "", 0⟩, ⟨"Shares", 88, 1, false, "", "", 8⟩], 2, 32, .agg [.int .i64 0, .nilS], .agg #[.int .i64 0, .slice none 0 0], none, true, false⟩ := rfl
@[simp] theorem T_90 : T 90 = some ⟨.struct #[⟨"Vertex", 3, 0, false, "", "", 0⟩, ⟨"Shares", 88, 1, false, "", "", 8⟩], 2, 32, .agg [.int .i64 0, .nilS], .agg #[.int .i64 0, .slice none 0 0], none, true, false⟩ := rfl
@[simp] theorem T_91 : T 91 = some ⟨.func #[24, 3] #[32] false, 1, 8, .nilFn, .nilFunc, none, false, false⟩ := rfl
@[simp] theorem T_92 : T 92 = some ⟨.func #[3, 25] #[33] false, 1, 8, .nilFn, .nilFunc, none, false, false⟩ := rfl
@[simp] theorem T_93 : T 93 = some ⟨.func #[] #[32] false, 1, 8, .nilFn, .nilFunc, none, false, false⟩ := rfl
@[simp] theorem T_94 : T 94 = some ⟨.func #[5] #[68] false, 1, 8, .nilFn, .nilFunc, none, false, false⟩ := rfl
@[simp] theorem T_95 : T 95 = some ⟨.func #[37, 37] #[4] false, 1, 8, .nilFn, .nilFunc, none, false, false⟩ := rfl
@[simp] theorem T_96 : T 96 = some ⟨.slice 115, 1, 24, .nilS, .slice none 0 0, none, false, false⟩ := rfl
@[simp] theorem T_98 : T 98 = some ⟨.func #[32, 33, 37] #[96, 4] false, 1, 8, .nilFn, .nilFunc, none, false, false⟩ := rfl
@[simp] theorem T_99 : T 99 = some ⟨.func #[32, 49] #[68] false, 1, 8, .nilFn, .nilFunc, none, false, false⟩ := rfl
@[simp] theorem T_100 : T 100 = some ⟨.func #[32, 49, 68] #[32, 39] false, 1, 8, .nilFn, .nilFunc, none, false, false⟩ := rfl
@[simp] theorem T_101 : T 101 = some ⟨.func #[32, 33, 37] #[37] false, 1, 8, .nilFn, .nilFunc, none, false, false⟩ := rfl
@[simp] theorem T_102 : T 102 = some ⟨.pointer 112, 1, 8, .nilP, .pointer none, none, false, false⟩ := rfl
@[simp] theorem T_103 : T 103 = some ⟨.func #[32, 37] #[102] false, 1, 8, .nilFn, .nilFunc, none, false, false⟩ := rfl
@[simp] theorem T_104 : T 104 = some ⟨.func #[3, 33] #[4] false, 1, 8, .nilFn, .nilFunc, none, false, false⟩ := rfl
@[simp] theorem T_105 : T 105 = some ⟨.map 2 4, 1, 8, .nilM, .map none, none, false, false⟩ := rfl
@[simp] theorem T_106 : T 106 = some ⟨.func #[29] #[29] false, 1, 8, .nilFn, .nilFunc, none, false, false⟩ := rfl
@[simp] theorem T_107 : T 107 = some ⟨.map 3 68, 1, 8, .nilM, .map none, none, false, false⟩ := rfl
@[simp] theorem T_108 : T 108 = some ⟨.func #[3] #[3] false, 1, 8, .nilFn, .nilFunc, none, false, false⟩ := rfl
@[simp] theorem T_109 : T 109 = some ⟨.slice 3, 1, 24, .nilS, .slice none 0 0, none, false, false⟩ := rfl
@[simp] theorem T_110 : T 110 = some ⟨.slice 113, 1, 24, .nilS, .slice none 0 0, none, false, false⟩ := rfl
@[simp] theorem T_111 : T 111 = some ⟨.struct #[⟨"n", 3, 0, false, "", "dross/update", 0⟩, ⟨"parent", 109, 1, false, "", "dross/update", 8⟩, ⟨"known", 110, 2, false, "", "dross/update", 32⟩], 3, 56, .agg [.int .i64 0, .nilS, .nilS], .agg #[.int .i64 0, .slice none 0 0, .slice none 0 0], none, true, false⟩ := rfl
@[simp] theorem T_112 : T 112 = some ⟨.struct #[⟨"n", 3, 0, false, "", "dross/update", 0⟩, ⟨"parent", 109, 1, false, "", "dross/update", 8⟩, ⟨"known", 110, 2, false, "", "dross/update", 32⟩], 3, 56, .agg [.int .i64 0, .nilS, .nilS], .agg #[.int .i64 0, .slice none 0 0, .slice none 0 0], none, true, false⟩ := rfl
@[simp] theorem T_113 : T 113 = some ⟨.pointer 68, 1, 8, .nilP, .pointer none, none, false, false⟩ := rfl
@[simp] theorem T_115 : T 115 = some ⟨.slice 117, 1, 24, .nilS, .slice none 0 0, none, false, false⟩ := rfl
@[simp] theorem T_116 : T 116 = some ⟨.struct #[⟨"V", 68, 0, false, "", "", 0⟩, ⟨"Symbol", 3, 3, false, "", "", 32⟩], 4, 40, .agg [.int .i64 0, .int .i64 0, .str ByteArray.empty, .int .i64 0], .agg #[.int .i64 0, .int .i64 0, .string ByteArray.empty, .int .i64 0], none, true, false⟩ := rfl
@[simp] theorem T_117 : T 117 = some ⟨.struct #[⟨"V", 68, 0, false, "", "", 0⟩, ⟨"Symbol", 3, 3, false, "", "", 32⟩], 4, 40, .agg [.int .i64 0, .int .i64 0, .str ByteArray.empty, .int .i64 0], .agg #[.int .i64 0, .int .i64 0, .string ByteArray.empty, .int .i64 0], none, true, false⟩ := rfl
@[simp] theorem T_118 : T 118 = some ⟨.func #[32, 2] #[4] false, 1, 8, .nilFn, .nilFunc, none, false, false⟩ := rfl
@[simp] theorem T_119 : T 119 = some ⟨.func #[96, 117, 117] #[] false, 1, 8, .nilFn, .nilFunc, none, false, false⟩ := rfl
@[simp] theorem T_120 : T 120 = some ⟨.func #[32, 30] #[32] false, 1, 8, .nilFn, .nilFunc, none, false, false⟩ := rfl
@[simp] theorem T_121 : T 121 = some ⟨.func #[32, 32] #[37] false, 1, 8, .nilFn, .nilFunc, none, false, false⟩ := rfl
@[simp] theorem T_122 : T 122 = some ⟨.func #[29, 29] #[4] false, 1, 8, .nilFn, .nilFunc, none, false, false⟩ := rfl
@[simp] theorem T_123 : T 123 = some ⟨.func #[66, 66] #[4] false, 1, 8, .nilFn, .nilFunc, none, false, false⟩ := rfl
@[simp] theorem T_124 : T 124 = some ⟨.func #[37, 49] #[3] false, 1, 8, .nilFn, .nilFunc, none, false, false⟩ := rfl
@[simp] theorem T_125 : T 125 = some ⟨.func #[66, 66, 44] #[4] false, 1, 8, .nilFn, .nilFunc, none, false, false⟩ := rfl
@[simp] theorem T_126 : T 126 = some ⟨.slice 2, 1, 24, .nilS, .slice none 0 0, none, false, false⟩ := rfl
@[simp] theorem T_127 : T 127 = some ⟨.slice 109, 1, 24, .nilS, .slice none 0 0, none, false, false⟩ := rfl
@[simp] theorem T_128 : T 128 = some ⟨.struct #[⟨"Weights", 126, 0, false, "", "", 0⟩, ⟨"Edges", 127, 1, false, "", "", 24⟩], 2, 48, .agg [.nilS, .nilS], .agg #[.slice none 0 0, .slice none 0 0], none, true, false⟩ := rfl
@[simp] theorem T_129 : T 129 = some ⟨.struct #[⟨"Weights", 126, 0, false, "", "", 0⟩, ⟨"Edges", 127, 1, false, "", "", 24⟩], 2, 48, .agg [.nilS, .nilS], .agg #[.slice none 0 0, .slice none 0 0], none, true, false⟩ := rfl
@[simp] theorem T_131 : T 131 = some ⟨.func #[71] #[129, 37] false, 1, 8, .nilFn, .nilFunc, none, false, false⟩ := rfl
@[simp] theorem T_133 : T 133 = some ⟨.func #[129, 3] #[109, 2, 39] false, 1, 8, .nilFn, .nilFunc, none, false, false⟩ := rfl
@[simp] theorem T_135 : T 135 = some ⟨.func #[129, 2, 3] #[72, 39] false, 1, 8, .nilFn, .nilFunc, none, false, false⟩ := rfl
@[simp] theorem T_136 : T 136 = some ⟨.func #[71, 137] #[] false, 1, 8, .nilFn, .nilFunc, none, false, false⟩ := rfl
@[simp] theorem T_137 : T 137 = some ⟨.func #[37, 37] #[3] false, 1, 8, .nilFn, .nilFunc, none, false, false⟩ := rfl
@[simp] theorem T_138 : T 138 = some ⟨.func #[32, 32, 37] #[4] false, 1, 8, .nilFn, .nilFunc, none, false, false⟩ := rfl
@[simp] theorem T_139 : T 139 = some ⟨.func #[129, 2, 72] #[4] false, 1, 8, .nilFn, .nilFunc, none, false, false⟩ := rfl
@[simp] theorem T_140 : T 140 = some ⟨.func #[32] #[39] false, 1, 8, .nilFn, .nilFunc, none, false, false⟩ := rfl
@[simp] theorem T_142 : T 142 = some ⟨.func #[37, 49, 143] #[3, 4] false, 1, 8, .nilFn, .nilFunc, none, false, false⟩ := rfl
@[simp] theorem T_143 : T 143 = some ⟨.func #[49, 49] #[3] false, 1, 8, .nilFn, .nilFunc, none, false, false⟩ := rfl
@[simp] theorem T_144 : T 144 = some ⟨.func #[37, 3, 3] #[37] false, 1, 8, .nilFn, .nilFunc, none, false, false⟩ := rfl
@[simp] theorem T_145 : T 145 = some ⟨.func #[71, 3, 3] #[71] false, 1, 8, .nilFn, .nilFunc, none, false, false⟩ := rfl
@[simp] theorem T_146 : T 146 = some ⟨.func #[71] #[71] false, 1, 8, .nilFn, .nilFunc, none, false, false⟩ := rfl
@[simp] theorem T_147 : T 147 = some ⟨.func #[72] #[72] false, 1, 8, .nilFn, .nilFunc, none, false, false⟩ := rfl
@[simp] theorem T_148 : T 148 = some ⟨.pointer 90, 1, 8, .nilP, .pointer none, none, false, false⟩ := rfl
@[simp] theorem T_149 : T 149 = some ⟨.func #[88] #[88] false, 1, 8, .nilFn, .nilFunc, none, false, false⟩ := rfl
@[simp] theorem T_150 : T 150 = some ⟨.struct #[⟨"Edge", 3, 0, false, "", "", 0⟩, ⟨"Amount", 2, 1, false, "", "", 8⟩], 2, 16, .agg [.int .i64 0, .int .i64 0], .agg #[.int .i64 0, .int .i64 0], none, true, false⟩ := rfl
@[simp] theorem T_151 : T 151 = some ⟨.struct #[⟨"Edge", 3, 0, false, "", "", 0⟩, ⟨"Amount", 2, 1, false, "", "", 8⟩], 2, 16, .agg [.int .i64 0, .int .i64 0], .agg #[.int .i64 0, .int .i64 0], none, true, false⟩ := rfl
@[simp] theorem T_152 : T 152 = some ⟨.func #[37, 3] #[37] false, 1, 8, .nilFn, .nilFunc, none, false, false⟩ := rfl
@[simp] theorem T_153 : T 153 = some ⟨.func #[49, 49] #[4] false, 1, 8, .nilFn, .nilFunc, none, false, false⟩ := rfl
@[simp] theorem T_154 : T 154 = some ⟨.func #[3, 33] #[39] false, 1, 8, .nilFn, .nilFunc, none, false, false⟩ := rfl
@[simp] theorem T_155 : T 155 = some ⟨.slice 5, 1, 24, .nilS, .slice none 0 0, none, false, false⟩ := rfl
@[simp] theorem T_156 : T 156 = some ⟨.func #[3] #[44] false, 1, 8, .nilFn, .nilFunc, none, false, false⟩ := rfl
@[simp] theorem T_157 : T 157 = some ⟨.struct #[⟨"L", 5, 0, false, "", "", 0⟩, ⟨"R", 5, 1, false, "", "", 1⟩], 2, 2, .agg [.int .u8 0, .int .u8 0], .agg #[.int .u8 0, .int .u8 0], none, true, false⟩ := rfl
@[simp] theorem T_158 : T 158 = some ⟨.struct #[⟨"L", 5, 0, false, "", "", 0⟩, ⟨"R", 5, 1, false, "", "", 1⟩], 2, 2, .agg [.int .u8 0, .int .u8 0], .agg #[.int .u8 0, .int .u8 0], none, true, false⟩ := rfl
@[simp] theorem T_159 : T 159 = some ⟨.func #[155] #[64] false, 1, 8, .nilFn, .nilFunc, none, false, false⟩ := rfl
@[simp] theorem T_160 : T 160 = some ⟨.func #[37] #[4] false, 1, 8, .nilFn, .nilFunc, none, false, false⟩ := rfl
@[simp] theorem T_161 : T 161 = some ⟨.func #[32, 2] #[3, 4] false, 1, 8, .nilFn, .nilFunc, none, false, false⟩ := rfl
@[simp] theorem T_162 : T 162 = some ⟨.func #[96, 33] #[3] false, 1, 8, .nilFn, .nilFunc, none, false, false⟩ := rfl
@[simp] theorem T_163 : T 163 = some ⟨.func #[68] #[4] false, 1, 8, .nilFn, .nilFunc, none, false, false⟩ := rfl
@[simp] theorem T_164 : T 164 = some ⟨.func #[3, 3, 44] #[4] false, 1, 8, .nilFn, .nilFunc, none, false, false⟩ := rfl
@[simp] theorem T_165 : T 165 = some ⟨.func #[3, 3] #[4] false, 1, 8, .nilFn, .nilFunc, none, false, false⟩ := rfl
@[simp] theorem T_166 : T 166 = some ⟨.func #[66] #[66] false, 1, 8, .nilFn, .nilFunc, none, false, false⟩ := rfl
@[simp] theorem T_167 : T 167 = some ⟨.func #[68, 68] #[3] false, 1, 8, .nilFn, .nilFunc, none, false, false⟩ := rfl
@[simp] theorem T_168 : T 168 = some ⟨.func #[64, 64] #[4] false, 1, 8, .nilFn, .nilFunc, none, false, false⟩ := rfl
@[simp] theorem T_169 : T 169 = some ⟨.func #[66, 44] #[64] false, 1, 8, .nilFn, .nilFunc, none, false, false⟩ := rfl
@[simp] theorem T_170 : T 170 = some ⟨.func #[71] #[37] true, 1, 8, .nilFn, .nilFunc, none, false, false⟩ := rfl
@[simp] theorem T_171 : T 171 = some ⟨.func #[37, 143] #[] false, 1, 8, .nilFn, .nilFunc, none, false, false⟩ := rfl
@[simp] theorem T_173 : T 173 = some ⟨.func #[129] #[109, 39] false, 1, 8, .nilFn, .nilFunc, none, false, false⟩ := rfl
@[simp] theorem T_175 : T 175 = some ⟨.func #[129, 109] #[2, 39] false, 1, 8, .nilFn, .nilFunc, none, false, false⟩ := rfl
@[simp] theorem T_176 : T 176 = some ⟨.pointer 178, 1, 8, .nilP, .pointer none, none, false, false⟩ := rfl
@[simp] theorem T_177 : T 177 = some ⟨.struct #[⟨"l", 109, 0, false, "", "dross/hitset", 0⟩, ⟨"weight", 2, 1, false, "", "dross/hitset", 24⟩], 2, 32, .agg [.nilS, .int .i64 0], .agg #[.slice none 0 0, .int .i64 0], none, true, false⟩ := rfl
@[simp] theorem T_178 : T 178 = some ⟨.struct #[⟨"l", 109, 0, false, "", "dross/hitset", 0⟩, ⟨"weight", 2, 1, false, "", "dross/hitset", 24⟩], 2, 32, .agg [.nilS, .int .i64 0], .agg #[.slice none 0 0, .int .i64 0], none, true, false⟩ := rfl
@[simp] theorem T_179 : T 179 = some ⟨.pointer 216, 1, 8, .nilP, .pointer none, none, false, false⟩ := rfl
@[simp] theorem T_180 : T 180 = some ⟨.func #[129, 3] #[179] false, 1, 8, .nilFn, .nilFunc, none, false, false⟩ := rfl
@[simp] theorem T_181 : T 181 = some ⟨.func #[176, 2] #[4] false, 1, 8, .nilFn, .nilFunc, none, false, false⟩ := rfl
@[simp] theorem T_182 : T 182 = some ⟨.func #[129] #[39] false, 1, 8, .nilFn, .nilFunc, none, false, false⟩ := rfl
@[simp] theorem T_183 : T 183 = some ⟨.func #[2] #[72, 39] false, 1, 8, .nilFn, .nilFunc, none, false, false⟩ := rfl
@[simp] theorem T_184 : T 184 = some ⟨.func #[71, 3, 3, 3, 137] #[] false, 1, 8, .nilFn, .nilFunc, none, false, false⟩ := rfl
@[simp] theorem T_185 : T 185 = some ⟨.func #[186] #[3] false, 1, 8, .nilFn, .nilFunc, none, false, false⟩ := rfl
@[simp] theorem T_186 : T 186 = some ⟨.int .u64, 1, 8, .int .u64 0, .int .u64 0, some (.int .u64), false, false⟩ := rfl
@[simp] theorem T_187 : T 187 = some ⟨.func #[37, 37, 143] #[3] false, 1, 8, .nilFn, .nilFunc, none, false, false⟩ := rfl
@[simp] theorem T_188 : T 188 = some ⟨.func #[2] #[4] false, 1, 8, .nilFn, .nilFunc, none, false, false⟩ := rfl
@[simp] theorem T_189 : T 189 = some ⟨.func #[129, 191, 72] #[3] false, 1, 8, .nilFn, .nilFunc, none, false, false⟩ := rfl
@[simp] theorem T_190 : T 190 = some ⟨.struct #[⟨"Chosen", 109, 0, false, "", "", 0⟩, ⟨"Excluded", 109, 1, false, "", "", 24⟩, ⟨"Bound", 2, 2, false, "", "", 48⟩], 3, 56, .agg [.nilS, .nilS, .int .i64 0], .agg #[.slice none 0 0, .slice none 0 0, .int .i64 0], none, true, false⟩ := rfl
@[simp] theorem T_191 : T 191 = some ⟨.struct #[⟨"Chosen", 109, 0, false, "", "", 0⟩, ⟨"Excluded", 109, 1, false, "", "", 24⟩, ⟨"Bound", 2, 2, false, "", "", 48⟩], 3, 56, .agg [.nilS, .nilS, .int .i64 0], .agg #[.slice none 0 0, .slice none 0 0, .int .i64 0], none, true, false⟩ := rfl
@[simp] theorem T_192 : T 192 = some ⟨.func #[9] #[4] false, 1, 8, .nilFn, .nilFunc, none, false, false⟩ := rfl
@[simp] theorem T_193 : T 193 = some ⟨