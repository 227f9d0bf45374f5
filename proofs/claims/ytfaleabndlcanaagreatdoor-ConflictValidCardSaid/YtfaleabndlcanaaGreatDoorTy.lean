/- Ty: the types of this seat for the abstract machine, printed by mkty.py. -/
import Derived.Test.YtfaleabndlcanaaGreatDoorProg
import Derived.Test.YtfaleabndlcanaaGreatDoorAMe
namespace Go.Proofs.YtfaleabndlcanaaGreatDoor
open Go Go.AM
def ti1 : TI := ⟨.func #[] #[] false, 1, 8, .nilFn, .nilFunc, none, false⟩
def ti2 : TI := ⟨.int .i64, 1, 8, .int .i64 0, .int .i64 0, some (.int .i64), false⟩
def ti3 : TI := ⟨.int .i64, 1, 8, .int .i64 0, .int .i64 0, some (.int .i64), false⟩
def ti4 : TI := ⟨.bool, 1, 1, .bool false, .bool false, some .bool, false⟩
def ti5 : TI := ⟨.int .u8, 1, 1, .int .u8 0, .int .u8 0, some (.int .u8), false⟩
def ti6 : TI := ⟨.int .u8, 1, 1, .int .u8 0, .int .u8 0, some (.int .u8), false⟩
def ti7 : TI := ⟨.struct #[⟨ "x", 2, 0, false, "", "runtime", 0⟩, ⟨ "y", 3, 1, false, "", "runtime", 8⟩, ⟨ "signed", 4, 2, false, "", "runtime", 16⟩, ⟨ "code", 6, 3, false, "", "runtime", 17⟩], 4, 24, .agg [.int .i64 0, .int .i64 0, .bool false, .int .u8 0], .agg #[.int .i64 0, .int .i64 0, .bool false, .int .u8 0], none, true⟩
def ti8 : TI := ⟨.struct #[⟨ "x", 2, 0, false, "", "runtime", 0⟩, ⟨ "y", 3, 1, false, "", "runtime", 8⟩, ⟨ "signed", 4, 2, false, "", "runtime", 16⟩, ⟨ "code", 6, 3, false, "", "runtime", 17⟩], 4, 24, .agg [.int .i64 0, .int .i64 0, .bool false, .int .u8 0], .agg #[.int .i64 0, .int .i64 0, .bool false, .int .u8 0], none, true⟩
def ti9 : TI := ⟨.string, 1, 16, .str ByteArray.empty, .string ByteArray.empty, some .str, false⟩
def ti10 : TI := ⟨.string, 1, 16, .str ByteArray.empty, .string ByteArray.empty, some .str, false⟩
def ti11 : TI := ⟨.string, 1, 16, .str ByteArray.empty, .string ByteArray.empty, some .str, false⟩
def ti12 : TI := ⟨.int .u64, 1, 8, .int .u64 0, .int .u64 0, some (.int .u64), false⟩
def ti13 : TI := ⟨.struct #[⟨ "msg", 9, 0, false, "", "runtime", 0⟩, ⟨ "addr", 12, 1, false, "", "runtime", 16⟩], 2, 24, .agg [.str ByteArray.empty, .int .u64 0], .agg #[.string ByteArray.empty, .int .u64 0], none, false⟩
def ti14 : TI := ⟨.struct #[⟨ "msg", 9, 0, false, "", "runtime", 0⟩, ⟨ "addr", 12, 1, false, "", "runtime", 16⟩], 2, 24, .agg [.str ByteArray.empty, .int .u64 0], .agg #[.string ByteArray.empty, .int .u64 0], none, false⟩
def ti15 : TI := ⟨.pointer 268, 1, 8, .nilP, .pointer none, none, false⟩
def ti16 : TI := ⟨.pointer 271, 1, 8, .nilP, .pointer none, none, false⟩
def ti17 : TI := ⟨.pointer 280, 1, 8, .nilP, .pointer none, none, false⟩
def ti18 : TI := ⟨.struct #[⟨ "typ", 17, 0, false, "", "internal/runtime/maps", 0⟩], 1, 8, .agg [.nilP], .agg #[.pointer none], none, false⟩
def ti19 : TI := ⟨.struct #[⟨ "typ", 17, 0, false, "", "internal/runtime/maps", 0⟩], 1, 8, .agg [.nilP], .agg #[.pointer none], none, false⟩
def ti21 : TI := ⟨.int .i32, 1, 4, .int .i32 0, .int .i32 0, some (.int .i32), false⟩
def ti22 : TI := ⟨.slice 9, 1, 24, .nilS, .slice none 0 0, none, false⟩
def ti23 : TI := ⟨.slice 97, 1, 24, .nilS, .slice none 0 0, none, false⟩
def ti24 : TI := ⟨.struct #[⟨ "Name", 9, 0, false, "", "", 0⟩, ⟨ "Attrs", 22, 1, false, "", "", 16⟩, ⟨ "Rows", 23, 2, false, "", "", 40⟩], 3, 64, .agg [.str ByteArray.empty, .nilS, .nilS], .agg #[.string ByteArray.empty, .slice none 0 0, .slice none 0 0], none, true⟩
def ti25 : TI := ⟨.struct #[⟨ "Name", 9, 0, false, "", "", 0⟩, ⟨ "Attrs", 22, 1, false, "", "", 16⟩, ⟨ "Rows", 23, 2, false, "", "", 40⟩], 3, 64, .agg [.str ByteArray.empty, .nilS, .nilS], .agg #[.string ByteArray.empty, .slice none 0 0, .slice none 0 0], none, true⟩
def ti26 : TI := ⟨.slice 45, 1, 24, .nilS, .slice none 0 0, none, false⟩
def ti27 : TI := ⟨.func #[] #[4] false, 1, 8, .nilFn, .nilFunc, none, false⟩
def ti28 : TI := ⟨.int .u32, 1, 4, .int .u32 0, .int .u32 0, some (.int .u32), false⟩
def ti29 : TI := ⟨.int .u32, 1, 4, .int .u32 0, .int .u32 0, some (.int .u32), false⟩
def ti30 : TI := ⟨.struct #[⟨ "Lhs", 29, 0, false, "", "", 0⟩, ⟨ "Rhs", 29, 1, false, "", "", 4⟩], 2, 8, .agg [.int .u32 0, .int .u32 0], .agg #[.int .u32 0, .int .u32 0], none, true⟩
def ti31 : TI := ⟨.struct #[⟨ "Lhs", 29, 0, false, "", "", 0⟩, ⟨ "Rhs", 29, 1, false, "", "", 4⟩], 2, 8, .agg [.int .u32 0, .int .u32 0], .agg #[.int .u32 0, .int .u32 0], none, true⟩
def ti32 : TI := ⟨.struct #[⟨ "Lhs", 29, 0, false, "", "", 0⟩, ⟨ "Rhs", 29, 1, false, "", "", 4⟩], 2, 8, .agg [.int .u32 0, .int .u32 0], .agg #[.int .u32 0, .int .u32 0], none, true⟩
def ti33 : TI := ⟨.slice 3, 1, 24, .nilS, .slice none 0 0, none, false⟩
def ti34 : TI := ⟨.struct #[⟨ "From", 9, 0, false, "", "", 0⟩, ⟨ "Lhs", 33, 1, false, "", "", 16⟩, ⟨ "To", 9, 2, false, "", "", 40⟩, ⟨ "Rhs", 33, 3, false, "", "", 56⟩], 4, 80, .agg [.str ByteArray.empty, .nilS, .str ByteArray.empty, .nilS], .agg #[.string ByteArray.empty, .slice none 0 0, .string ByteArray.empty, .slice none 0 0], none, true⟩
def ti35 : TI := ⟨.struct #[⟨ "From", 9, 0, false, "", "", 0⟩, ⟨ "Lhs", 33, 1, false, "", "", 16⟩, ⟨ "To", 9, 2, false, "", "", 40⟩, ⟨ "Rhs", 33, 3, false, "", "", 56⟩], 4, 80, .agg [.str ByteArray.empty, .nilS, .str ByteArray.empty, .nilS], .agg #[.string ByteArray.empty, .slice none 0 0, .string ByteArray.empty, .slice none 0 0], none, true⟩
def ti36 : TI := ⟨.slice 181, 1, 24, .nilS, .slice none 0 0, none, false⟩
def ti37 : TI := ⟨.struct #[⟨ "Lhs", 33, 0, false, "", "", 0⟩, ⟨ "Rhs", 3, 1, false, "", "", 24⟩, ⟨ "Pattern", 36, 2, false, "", "", 32⟩], 3, 56, .agg [.nilS, .int .i64 0, .nilS], .agg #[.slice none 0 0, .int .i64 0, .slice none 0 0], none, true⟩
def ti38 : TI := ⟨.struct #[⟨ "Lhs", 33, 0, false, "", "", 0⟩, ⟨ "Rhs", 3, 1, false, "", "", 24⟩, ⟨ "Pattern", 36, 2, false, "", "", 32⟩], 3, 56, .agg [.nilS, .int .i64 0, .nilS], .agg #[.slice none 0 0, .int .i64 0, .slice none 0 0], none, true⟩
def ti39 : TI := ⟨.struct #[⟨ "Lhs", 33, 0, false, "", "", 0⟩, ⟨ "Rhs", 33, 1, false, "", "", 24⟩], 2, 48, .agg [.nilS, .nilS], .agg #[.slice none 0 0, .slice none 0 0], none, true⟩
def ti40 : TI := ⟨.struct #[⟨ "Lhs", 33, 0, false, "", "", 0⟩, ⟨ "Rhs", 33, 1, false, "", "", 24⟩], 2, 48, .agg [.nilS, .nilS], .agg #[.slice none 0 0, .slice none 0 0], none, true⟩
def ti41 : TI := ⟨.slice 137, 1, 24, .nilS, .slice none 0 0, none, false⟩
def ti42 : TI := ⟨.struct #[⟨ "Vars", 3, 0, false, "", "", 0⟩, ⟨ "Atoms", 41, 1, false, "", "", 8⟩], 2, 32, .agg [.int .i64 0, .nilS], .agg #[.int .i64 0, .slice none 0 0], none, true⟩
def ti43 : TI := ⟨.struct #[⟨ "Vars", 3, 0, false, "", "", 0⟩, ⟨ "Atoms", 41, 1, false, "", "", 8⟩], 2, 32, .agg [.int .i64 0, .nilS], .agg #[.int .i64 0, .slice none 0 0], none, true⟩
def ti44 : TI := ⟨.struct #[⟨ "Name", 9, 0, false, "", "", 0⟩, ⟨ "Table", 9, 1, false, "", "", 16⟩, ⟨ "Kind", 3, 2, false, "", "", 32⟩, ⟨ "FD", 31, 3, false, "", "", 40⟩, ⟨ "MVD", 32, 5, false, "", "", 48⟩, ⟨ "IND", 35, 7, false, "", "", 56⟩, ⟨ "CFD", 38, 11, false, "", "", 136⟩, ⟨ "OD", 40, 14, false, "", "", 192⟩, ⟨ "Denial", 43, 16, false, "", "", 240⟩], 18, 272, .agg [.str ByteArray.empty, .str ByteArray.empty, .int .i64 0, .int .u32 0, .int .u32 0, .int .u32 0, .int .u32 0, .str ByteArray.empty, .nilS, .str ByteArray.empty, .nilS, .nilS, .int .i64 0, .nilS, .nilS, .nilS, .int .i64 0, .nilS], .agg #[.string ByteArray.empty, .string ByteArray.empty, .int .i64 0, .int .u32 0, .int .u32 0, .int .u32 0, .int .u32 0, .string ByteArray.empty, .slice none 0 0, .string ByteArray.empty, .slice none 0 0, .slice none 0 0, .int .i64 0, .slice none 0 0, .slice none 0 0, .slice none 0 0, .int .i64 0, .slice none 0 0], none, true⟩
def ti45 : TI := ⟨.struct #[⟨ "Name", 9, 0, false, "", "", 0⟩, ⟨ "Table", 9, 1, false, "", "", 16⟩, ⟨ "Kind", 3, 2, false, "", "", 32⟩, ⟨ "FD", 31, 3, false, "", "", 40⟩, ⟨ "MVD", 32, 5, false, "", "", 48⟩, ⟨ "IND", 35, 7, false, "", "", 56⟩, ⟨ "CFD", 38, 11, false, "", "", 136⟩, ⟨ "OD", 40, 14, false, "", "", 192⟩, ⟨ "Denial", 43, 16, false, "", "", 240⟩], 18, 272, .agg [.str ByteArray.empty, .str ByteArray.empty, .int .i64 0, .int .u32 0, .int .u32 0, .int .u32 0, .int .u32 0, .str ByteArray.empty, .nilS, .str ByteArray.empty, .nilS, .nilS, .int .i64 0, .nilS, .nilS, .nilS, .int .i64 0, .nilS], .agg #[.string ByteArray.empty, .string ByteArray.empty, .int .i64 0, .int .u32 0, .int .u32 0, .int .u32 0, .int .u32 0, .string ByteArray.empty, .slice none 0 0, .string ByteArray.empty, .slice none 0 0, .slice none 0 0, .int .i64 0, .slice none 0 0, .slice none 0 0, .slice none 0 0, .int .i64 0, .slice none 0 0], none, true⟩
def ti46 : TI := ⟨.slice 2, 1, 24, .nilS, .slice none 0 0, none, false⟩
def ti47 : TI := ⟨.slice 46, 1, 24, .nilS, .slice none 0 0, none, false⟩
def ti48 : TI := ⟨.struct #[⟨ "Vertices", 46, 0, false, "", "", 0⟩, ⟨ "Edges", 47, 1, false, "", "", 24⟩], 2, 48, .agg [.nilS, .nilS], .agg #[.slice none 0 0, .slice none 0 0], none, true⟩
def ti49 : TI := ⟨.struct #[⟨ "Vertices", 46, 0, false, "", "", 0⟩, ⟨ "Edges", 47, 1, false, "", "", 24⟩], 2, 48, .agg [.nilS, .nilS], .agg #[.slice none 0 0, .slice none 0 0], none, true⟩
def ti50 : TI := ⟨.int .i64, 1, 8, .int .i64 0, .int .i64 0, some (.int .i64), false⟩
def ti52 : TI := ⟨.func #[25, 26] #[49, 50] false, 1, 8, .nilFn, .nilFunc, none, false⟩
def ti53 : TI := ⟨.func #[26] #[26] false, 1, 8, .nilFn, .nilFunc, none, false⟩
def ti54 : TI := ⟨.func #[49, 49] #[4] false, 1, 8, .nilFn, .nilFunc, none, false⟩
def ti55 : TI := ⟨.func #[25, 26] #[4] false, 1, 8, .nilFn, .nilFunc, none, false⟩
def ti56 : TI := ⟨.slice 5, 1, 24, .nilS, .slice none 0 0, none, false⟩
def ti57 : TI := ⟨.struct #[⟨ "N", 5, 0, false, "", "", 0⟩, ⟨ "Edges", 56, 1, false, "", "", 8⟩], 2, 32, .agg [.int .u8 0, .nilS], .agg #[.int .u8 0, .slice none 0 0], none, true⟩
def ti58 : TI := ⟨.struct #[⟨ "N", 5, 0, false, "", "", 0⟩, ⟨ "Edges", 56, 1, false, "", "", 8⟩], 2, 32, .agg [.int .u8 0, .nilS], .agg #[.int .u8 0, .slice none 0 0], none, true⟩
def ti60 : TI := ⟨.func #[58] #[49, 4] false, 1, 8, .nilFn, .nilFunc, none, false⟩
def ti61 : TI := ⟨.func #[49, 46] #[4] false, 1, 8, .nilFn, .nilFunc, none, false⟩
def ti62 : TI := ⟨.func #[46] #[46] false, 1, 8, .nilFn, .nilFunc, none, false⟩
def ti63 : TI := ⟨.func #[58, 46] #[4] false, 1, 8, .nilFn, .nilFunc, none, false⟩
def ti64 : TI := ⟨.func #[49, 2] #[3] false, 1, 8, .nilFn, .nilFunc, none, false⟩
def ti65 : TI := ⟨.func #[46, 46] #[4] false, 1, 8, .nilFn, .nilFunc, none, false⟩
def ti66 : TI := ⟨.func #[49] #[46] false, 1, 8, .nilFn, .nilFunc, none, false⟩
def ti67 : TI := ⟨.func #[58, 2] #[4] false, 1, 8, .nilFn, .nilFunc, none, false⟩
def ti68 : TI := ⟨.slice 56, 1, 24, .nilS, .slice none 0 0, none, false⟩
def ti69 : TI := ⟨.struct #[⟨ "Attrs", 5, 0, false, "", "", 0⟩, ⟨ "Gap", 5, 1, false, "", "", 1⟩, ⟨ "Rows", 68, 2, false, "", "", 8⟩], 3, 32, .agg [.int .u8 0, .int .u8 0, .nilS], .agg #[.int .u8 0, .int .u8 0, .slice none 0 0], none, true⟩
def ti70 : TI := ⟨.struct #[⟨ "Attrs", 5, 0, false, "", "", 0⟩, ⟨ "Gap", 5, 1, false, "", "", 1⟩, ⟨ "Rows", 68, 2, false, "", "", 8⟩], 3, 32, .agg [.int .u8 0, .int .u8 0, .nilS], .agg #[.int .u8 0, .int .u8 0, .slice none 0 0], none, true⟩
def ti71 : TI := ⟨.slice 118, 1, 24, .nilS, .slice none 0 0, none, false⟩
def ti73 : TI := ⟨.func #[70, 3] #[25, 4] false, 1, 8, .nilFn, .nilFunc, none, false⟩
def ti75 : TI := ⟨.func #[3, 71] #[26, 4] false, 1, 8, .nilFn, .nilFunc, none, false⟩
def ti76 : TI := ⟨.func #[49] #[4] false, 1, 8, .nilFn, .nilFunc, none, false⟩
def ti77 : TI := ⟨.func #[70, 71] #[4] false, 1, 8, .nilFn, .nilFunc, none, false⟩
def ti78 : TI := ⟨.func #[49, 5] #[46] false, 1, 8, .nilFn, .nilFunc, none, false⟩
def ti79 : TI := ⟨.func #[46, 2] #[4] false, 1, 8, .nilFn, .nilFunc, none, false⟩
def ti80 : TI := ⟨.func #[25, 46] #[25] false, 1, 8, .nilFn, .nilFunc, none, false⟩
def ti81 : TI := ⟨.func #[49, 46] #[49] false, 1, 8, .nilFn, .nilFunc, none, false⟩
def ti82 : TI := ⟨.func #[70, 71, 5] #[4] false, 1, 8, .nilFn, .nilFunc, none, false⟩
def ti83 : TI := ⟨.slice 49, 1, 24, .nilS, .slice none 0 0, none, false⟩
def ti84 : TI := ⟨.func #[49] #[83] false, 1, 8, .nilFn, .nilFunc, none, false⟩
def ti85 : TI := ⟨.func #[58, 5] #[4] false, 1, 8, .nilFn, .nilFunc, none, false⟩
def ti87 : TI := ⟨.func #[] #[25, 26] false, 1, 8, .nilFn, .nilFunc, none, false⟩
def ti88 : TI := ⟨.func #[25] #[50] false, 1, 8, .nilFn, .nilFunc, none, false⟩
def ti89 : TI := ⟨.slice 43, 1, 24, .nilS, .slice none 0 0, none, false⟩
def ti91 : TI := ⟨.func #[25, 45] #[89, 50] false, 1, 8, .nilFn, .nilFunc, none, false⟩
def ti93 : TI := ⟨.func #[25, 45] #[47, 50] false, 1, 8, .nilFn, .nilFunc, none, false⟩
def ti94 : TI := ⟨.func #[47] #[47] false, 1, 8, .nilFn, .nilFunc, none, false⟩
def ti95 : TI := ⟨.slice 132, 1, 24, .nilS, .slice none 0 0, none, false⟩
def ti96 : TI := ⟨.struct #[⟨ "ID", 2, 0, false, "", "", 0⟩, ⟨ "Values", 95, 1, false, "", "", 8⟩], 2, 32, .agg [.int .i64 0, .nilS], .agg #[.int .i64 0, .slice none 0 0], none, true⟩
def ti97 : TI := ⟨.struct #[⟨ "ID", 2, 0, false, "", "", 0⟩, ⟨ "Values", 95, 1, false, "", "", 8⟩], 2, 32, .agg [.int .i64 0, .nilS], .agg #[.int .i64 0, .slice none 0 0], none, true⟩
def ti98 : TI := ⟨.func #[25] #[46] false, 1, 8, .nilFn, .nilFunc, none, false⟩
def ti99 : TI := ⟨.func #[47, 47] #[4] false, 1, 8, .nilFn, .nilFunc, none, false⟩
def ti100 : TI := ⟨.func #[46] #[4] false, 1, 8, .nilFn, .nilFunc, none, false⟩
def ti101 : TI := ⟨.func #[47, 100] #[4] false, 1, 8, .nilFn, .nilFunc, none, false⟩
def ti103 : TI := ⟨.func #[46, 2] #[3, 4] false, 1, 8, .nilFn, .nilFunc, none, false⟩
def ti104 : TI := ⟨.func #[46, 3, 46] #[46] true, 1, 8, .nilFn, .nilFunc, none, false⟩
def ti105 : TI := ⟨.func #[70, 3] #[25] false, 1, 8, .nilFn, .nilFunc, none, false⟩
def ti107 : TI := ⟨.func #[3, 118] #[45, 4] false, 1, 8, .nilFn, .nilFunc, none, false⟩
def ti108 : TI := ⟨.struct #[⟨ "L", 5, 0, false, "", "", 0⟩, ⟨ "R", 5, 1, false, "", "", 1⟩], 2, 2, .agg [.int .u8 0, .int .u8 0], .agg #[.int .u8 0, .int .u8 0], none, true⟩
def ti109 : TI := ⟨.struct #[⟨ "L", 5, 0, false, "", "", 0⟩, ⟨ "R", 5, 1, false, "", "", 1⟩], 2, 2, .agg [.int .u8 0, .int .u8 0], .agg #[.int .u8 0, .int .u8 0], none, true⟩
def ti110 : TI := ⟨.struct #[⟨ "Lhs", 5, 0, false, "", "", 0⟩, ⟨ "Rhs", 5, 1, false, "", "", 1⟩, ⟨ "Codes", 56, 2, false, "", "", 8⟩], 3, 32, .agg [.int .u8 0, .int .u8 0, .nilS], .agg #[.int .u8 0, .int .u8 0, .slice none 0 0], none, true⟩
def ti111 : TI := ⟨.struct #[⟨ "Lhs", 5, 0, false, "", "", 0⟩, ⟨ "Rhs", 5, 1, false, "", "", 1⟩, ⟨ "Codes", 56, 2, false, "", "", 8⟩], 3, 32, .agg [.int .u8 0, .int .u8 0, .nilS], .agg #[.int .u8 0, .int .u8 0, .slice none 0 0], none, true⟩
def ti112 : TI := ⟨.struct #[⟨ "X", 56, 0, false, "", "", 0⟩, ⟨ "Y", 56, 1, false, "", "", 24⟩], 2, 48, .agg [.nilS, .nilS], .agg #[.slice none 0 0, .slice none 0 0], none, true⟩
def ti113 : TI := ⟨.struct #[⟨ "X", 56, 0, false, "", "", 0⟩, ⟨ "Y", 56, 1, false, "", "", 24⟩], 2, 48, .agg [.nilS, .nilS], .agg #[.slice none 0 0, .slice none 0 0], none, true⟩
def ti114 : TI := ⟨.slice 212, 1, 24, .nilS, .slice none 0 0, none, false⟩
def ti115 : TI := ⟨.struct #[⟨ "Vars", 5, 0, false, "", "", 0⟩, ⟨ "Atoms", 114, 1, false, "", "", 8⟩], 2, 32, .agg [.int .u8 0, .nilS], .agg #[.int .u8 0, .slice none 0 0], none, true⟩
def ti116 : TI := ⟨.struct #[⟨ "Vars", 5, 0, false, "", "", 0⟩, ⟨ "Atoms", 114, 1, false, "", "", 8⟩], 2, 32, .agg [.int .u8 0, .nilS], .agg #[.int .u8 0, .slice none 0 0], none, true⟩
def ti117 : TI := ⟨.struct #[⟨ "Kind", 5, 0, false, "", "", 0⟩, ⟨ "F", 109, 1, false, "", "", 1⟩, ⟨ "C", 111, 3, false, "", "", 8⟩, ⟨ "O", 113, 6, false, "", "", 40⟩, ⟨ "N", 116, 8, false, "", "", 88⟩], 10, 120, .agg [.int .u8 0, .int .u8 0, .int .u8 0, .int .u8 0, .int .u8 0, .nilS, .nilS, .nilS, .int .u8 0, .nilS], .agg #[.int .u8 0, .int .u8 0, .int .u8 0, .int .u8 0, .int .u8 0, .slice none 0 0, .slice none 0 0, .slice none 0 0, .int .u8 0, .slice none 0 0], none, true⟩
def ti118 : TI := ⟨.struct #[⟨ "Kind", 5, 0, false, "", "", 0⟩, ⟨ "F", 109, 1, false, "", "", 1⟩, ⟨ "C", 111, 3, false, "", "", 8⟩, ⟨ "O", 113, 6, false, "", "", 40⟩, ⟨ "N", 116, 8, false, "", "", 88⟩], 10, 120, .agg [.int .u8 0, .int .u8 0, .int .u8 0, .int .u8 0, .int .u8 0, .nilS, .nilS, .nilS, .int .u8 0, .nilS], .agg #[.int .u8 0, .int .u8 0, .int .u8 0, .int .u8 0, .int .u8 0, .slice none 0 0, .slice none 0 0, .slice none 0 0, .int .u8 0, .slice none 0 0], none, true⟩
def ti119 : TI := ⟨.func #[46, 46] #[3] false, 1, 8, .nilFn, .nilFunc, none, false⟩
def ti120 : TI := ⟨.func #[29, 3] #[4] false, 1, 8, .nilFn, .nilFunc, none, false⟩
def ti121 : TI := ⟨.func #[46, 2] #[3] false, 1, 8, .nilFn, .nilFunc, none, false⟩
def ti122 : TI := ⟨.func #[25, 23] #[25] false, 1, 8, .nilFn, .nilFunc, none, false⟩
def ti123 : TI := ⟨.map 2 4, 1, 8, .nilM, .map none, none, false⟩
def ti124 : TI := ⟨.func #[46, 125] #[4] false, 1, 8, .nilFn, .nilFunc, none, false⟩
def ti125 : TI := ⟨.func #[2] #[4] false, 1, 8, .nilFn, .nilFunc, none, false⟩
def ti126 : TI := ⟨.func #[3] #[3] false, 1, 8, .nilFn, .nilFunc, none, false⟩
def ti127 : TI := ⟨.func #[2] #[3] false, 1, 8, .nilFn, .nilFunc, none, false⟩
def ti128 : TI := ⟨.map 3 3, 1, 8, .nilM, .map none, none, false⟩
def ti129 : TI := ⟨.pointer 49, 1, 8, .nilP, .pointer none, none, false⟩
def ti130 : TI := ⟨.func #[56] #[95] false, 1, 8, .nilFn, .nilFunc, none, false⟩
def ti131 : TI := ⟨.struct #[⟨ "Kind", 3, 0, false, "", "", 0⟩, ⟨ "Num", 2, 1, false, "", "", 8⟩, ⟨ "Str", 9, 2, false, "", "", 16⟩], 3, 32, .agg [.int .i64 0, .int .i64 0, .str ByteArray.empty], .agg #[.int .i64 0, .int .i64 0, .string ByteArray.empty], none, true⟩
def ti132 : TI := ⟨.struct #[⟨ "Kind", 3, 0, false, "", "", 0⟩, ⟨ "Num", 2, 1, false, "", "", 8⟩, ⟨ "Str", 9, 2, false, "", "", 16⟩], 3, 32, .agg [.int .i64 0, .int .i64 0, .str ByteArray.empty], .agg #[.int .i64 0, .int .i64 0, .string ByteArray.empty], none, true⟩
def ti133 : TI := ⟨.struct #[⟨ "Var", 3, 0, false, "", "", 0⟩, ⟨ "Attr", 3, 1, false, "", "", 8⟩, ⟨ "Value", 132, 2, false, "", "", 16⟩], 5, 48, .agg [.int .i64 0, .int .i64 0, .int .i64 0, .int .i64 0, .str ByteArray.empty], .agg #[.int .i64 0, .int .i64 0, .int .i64 0, .int .i64 0, .string ByteArray.empty], none, true⟩
def ti134 : TI := ⟨.struct #[⟨ "Var", 3, 0, false, "", "", 0⟩, ⟨ "Attr", 3, 1, false, "", "", 8⟩, ⟨ "Value", 132, 2, false, "", "", 16⟩], 5, 48, .agg [.int .i64 0, .int .i64 0, .int .i64 0, .int .i64 0, .str ByteArray.empty], .agg #[.int .i64 0, .int .i64 0, .int .i64 0, .int .i64 0, .string ByteArray.empty], none, true⟩
def ti135 : TI := ⟨.func #[5] #[132] false, 1, 8, .nilFn, .nilFunc, none, false⟩
def ti136 : TI := ⟨.struct #[⟨ "Left", 134, 0, false, "", "", 0⟩, ⟨ "Op", 3, 5, false, "", "", 48⟩, ⟨ "Right", 134, 6, false, "", "", 56⟩], 11, 104, .agg [.int .i64 0, .int .i64 0, .int .i64 0, .int .i64 0, .str ByteArray.empty, .int .i64 0, .int .i64 0, .int .i64 0, .int .i64 0, .int .i64 0, .str ByteArray.empty], .agg #[.int .i64 0, .int .i64 0, .int .i64 0, .int .i64 0, .string ByteArray.empty, .int .i64 0, .int .i64 0, .int .i64 0, .int .i64 0, .int .i64 0, .string ByteArray.empty], none, true⟩
def ti137 : TI := ⟨.struct #[⟨ "Left", 134, 0, false, "", "", 0⟩, ⟨ "Op", 3, 5, false, "", "", 48⟩, ⟨ "Right", 134, 6, false, "", "", 56⟩], 11, 104, .agg [.int .i64 0, .int .i64 0, .int .i64 0, .int .i64 0, .str ByteArray.empty, .int .i64 0, .int .i64 0, .int .i64 0, .int .i64 0, .int .i64 0, .str ByteArray.empty], .agg #[.int .i64 0, .int .i64 0, .int .i64 0, .int .i64 0, .string ByteArray.empty, .int .i64 0, .int .i64 0, .int .i64 0, .int .i64 0, .int .i64 0, .string ByteArray.empty], none, true⟩
def ti138 : TI := ⟨.func #[9] #[4] false, 1, 8, .nilFn, .nilFunc, none, false⟩
def ti139 : TI := ⟨.func #[22, 9] #[4] false, 1, 8, .nilFn, .nilFunc, none, false⟩
def ti140 : TI := ⟨.func #[95] #[4] false, 1, 8, .nilFn, .nilFunc, none, false⟩
def ti141 : TI := ⟨.func #[3, 31] #[89, 50] false, 1, 8, .nilFn, .nilFunc, none, false⟩
def ti142 : TI := ⟨.func #[3, 43] #[4] false, 1, 8, .nilFn, .nilFunc, none, false⟩
def ti143 : TI := ⟨.func #[3, 38] #[4] false, 1, 8, .nilFn, .nilFunc, none, false⟩
def ti144 : TI := ⟨.func #[3, 40] #[4] false, 1, 8, .nilFn, .nilFunc, none, false⟩
def ti145 : TI := ⟨.func #[25, 38] #[47, 50] false, 1, 8, .nilFn, .nilFunc, none, false⟩
def ti146 : TI := ⟨.func #[25, 40] #[47, 50] false, 1, 8, .nilFn, .nilFunc, none, false⟩
def ti147 : TI := ⟨.func #[25, 43] #[47, 50] false, 1, 8, .nilFn, .nilFunc, none, false⟩
def ti148 : TI := ⟨.map 149 4, 1, 8, .nilM, .map none, none, false⟩
def ti149 : TI := ⟨.array 3 2, 3, 24, .agg [.int .i64 0, .int .i64 0, .int .i64 0], .agg #[.int .i64 0, .int .i64 0, .int .i64 0], some (.arr 3), true⟩
def ti150 : TI := ⟨.func #[46] #[149] false, 1, 8, .nilFn, .nilFunc, none, false⟩
def ti151 : TI := ⟨.func #[47] #[46] true, 1, 8, .nilFn, .nilFunc, none, false⟩
def ti152 : TI := ⟨.func #[47, 119] #[] false, 1, 8, .nilFn, .nilFunc, none, false⟩
def ti153 : TI := ⟨.func #[47, 65] #[47] false, 1, 8, .nilFn, .nilFunc, none, false⟩
def ti154 : TI := ⟨.func #[22] #[4] false, 1, 8, .nilFn, .nilFunc, none, false⟩
def ti155 : TI := ⟨.func #[25, 31] #[47, 50] false, 1, 8, .nilFn, .nilFunc, none, false⟩
def ti156 : TI := ⟨.func #[47, 100] #[3] false, 1, 8, .nilFn, .nilFunc, none, false⟩
def ti157 : TI := ⟨.int .u64, 1, 8, .int .u64 0, .int .u64 0, some (.int .u64), false⟩
def ti158 : TI := ⟨.func #[2, 2] #[4] false, 1, 8, .nilFn, .nilFunc, none, false⟩
def ti159 : TI := ⟨.func #[46, 3] #[] false, 1, 8, .nilFn, .nilFunc, none, false⟩
def ti160 : TI := ⟨.func #[3, 111] #[38] false, 1, 8, .nilFn, .nilFunc, none, false⟩
def ti161 : TI := ⟨.func #[3, 113] #[40] false, 1, 8, .nilFn, .nilFunc, none, false⟩
def ti163 : TI := ⟨.func #[3, 116] #[43, 4] false, 1, 8, .nilFn, .nilFunc, none, false⟩
def ti164 : TI := ⟨.slice 31, 1, 24, .nilS, .slice none 0 0, none, false⟩
def ti165 : TI := ⟨.func #[3, 166] #[164] false, 1, 8, .nilFn, .nilFunc, none, false⟩
def ti166 : TI := ⟨.slice 109, 1, 24, .nilS, .slice none 0 0, none, false⟩
def ti167 : TI := ⟨.func #[2, 2] #[3] false, 1, 8, .nilFn, .nilFunc, none, false⟩
def ti168 : TI := ⟨.func #[97] #[97] false, 1, 8, .nilFn, .nilFunc, none, false⟩
def ti169 : TI := ⟨.func #[46, 125] #[3] false, 1, 8, .nilFn, .nilFunc, none, false⟩
def ti170 : TI := ⟨.func #[22, 9] #[3] false, 1, 8, .nilFn, .nilFunc, none, false⟩
def ti171 : TI := ⟨.func #[95, 172] #[4] false, 1, 8, .nilFn, .nilFunc, none, false⟩
def ti172 : TI := ⟨.func #[132] #[4] false, 1, 8, .nilFn, .nilFunc, none, false⟩
def ti173 : TI := ⟨.func #[3, 164] #[50] false, 1, 8, .nilFn, .nilFunc, none, false⟩
def ti174 : TI := ⟨.func #[29] #[33] false, 1, 8, .nilFn, .nilFunc, none, false⟩
def ti175 : TI := ⟨.func #[3, 3] #[137] false, 1, 8, .nilFn, .nilFunc, none, false⟩
def ti176 : TI := ⟨.func #[41, 178] #[4] false, 1, 8, .nilFn, .nilFunc, none, false⟩
def ti177 : TI := ⟨.func #[3, 3, 134] #[4] false, 1, 8, .nilFn, .nilFunc, none, false⟩
def ti178 : TI := ⟨.func #[137] #[4] false, 1, 8, .nilFn, .nilFunc, none, false⟩
def ti179 : TI := ⟨.func #[36, 182] #[4] false, 1, 8, .nilFn, .nilFunc, none, false⟩
def ti180 : TI := ⟨.struct #[⟨ "Any", 4, 0, false, "", "", 0⟩, ⟨ "Value", 132, 1, false, "", "", 8⟩], 4, 40, .agg [.bool false, .int .i64 0, .int .i64 0, .str ByteArray.empty], .agg #[.bool false, .int .i64 0, .int .i64 0, .string ByteArray.empty], none, true⟩
def ti181 : TI := ⟨.struct #[⟨ "Any", 4, 0, false, "", "", 0⟩, ⟨ "Value", 132, 1, false, "", "", 8⟩], 4, 40, .agg [.bool false, .int .i64 0, .int .i64 0, .str ByteArray.empty], .agg #[.bool false, .int .i64 0, .int .i64 0, .string ByteArray.empty], none, true⟩
def ti182 : TI := ⟨.func #[181] #[4] false, 1, 8, .nilFn, .nilFunc, none, false⟩
def ti183 : TI := ⟨.func #[3, 33] #[4] false, 1, 8, .nilFn, .nilFunc, none, false⟩
def ti184 : TI := ⟨.func #[38, 95] #[4] false, 1, 8, .nilFn, .nilFunc, none, false⟩
def ti185 : TI := ⟨.func #[181, 132] #[4] false, 1, 8, .nilFn, .nilFunc, none, false⟩
def ti186 : TI := ⟨.func #[38] #[181] false, 1, 8, .nilFn, .nilFunc, none, false⟩
def ti187 : TI := ⟨.func #[38, 95, 95] #[4] false, 1, 8, .nilFn, .nilFunc, none, false⟩
def ti188 : TI := ⟨.func #[25, 189] #[50] false, 1, 8, .nilFn, .nilFunc, none, false⟩
def ti189 : TI := ⟨.func #[3] #[4] false, 1, 8, .nilFn, .nilFunc, none, false⟩
def ti190 : TI := ⟨.func #[97, 97, 40] #[3] false, 1, 8, .nilFn, .nilFunc, none, false⟩
def ti191 : TI := ⟨.func #[25, 43] #[50] false, 1, 8, .nilFn, .nilFunc, none, false⟩
def ti192 : TI := ⟨.func #[25, 43, 23, 194] #[4] false, 1, 8, .nilFn, .nilFunc, none, false⟩
def ti193 : TI := ⟨.func #[46] #[] false, 1, 8, .nilFn, .nilFunc, none, false⟩
def ti194 : TI := ⟨.func #[23] #[4] false, 1, 8, .nilFn, .nilFunc, none, false⟩
def ti195 : TI := ⟨.func #[46, 3] #[46] false, 1, 8, .nilFn, .nilFunc, none, false⟩
def ti196 : TI := ⟨.func #[47, 3, 3, 3, 119] #[] false, 1, 8, .nilFn, .nilFunc, none, false⟩
def ti197 : TI := ⟨.func #[157] #[3] false, 1, 8, .nilFn, .nilFunc, none, false⟩
def ti198 : TI := ⟨.func #[5] #[4] false, 1, 8, .nilFn, .nilFunc, none, false⟩
def ti199 : TI := ⟨.func #[29, 29] #[4] false, 1, 8, .nilFn, .nilFunc, none, false⟩
def ti200 : TI := ⟨.func #[3] #[29] false, 1, 8, .nilFn, .nilFunc, none, false⟩
def ti201 : TI := ⟨.func #[97, 97, 29] #[4] false, 1, 8, .nilFn, .nilFunc, none, false⟩
def ti202 : TI := ⟨.func #[25, 40] #[50] false, 1, 8, .nilFn, .nilFunc, none, false⟩
def ti203 : TI := ⟨.slice 23, 1, 24, .nilS, .slice none 0 0, none, false⟩
def ti204 : TI := ⟨.func #[25, 3] #[203] false, 1, 8, .nilFn, .nilFunc, none, false⟩
def ti205 : TI := ⟨.func #[43, 23] #[4] false, 1, 8, .nilFn, .nilFunc, none, false⟩
def ti206 : TI := ⟨.func #[47, 46] #[47] false, 1, 8, .nilFn, .nilFunc, none, false⟩
def ti207 : TI := ⟨.func #[23] #[46] false, 1, 8, .nilFn, .nilFunc, none, false⟩
def ti208 : TI := ⟨.func #[3, 56] #[33] false, 1, 8, .nilFn, .nilFunc, none, false⟩
def ti209 : TI := ⟨.struct #[⟨ "Var", 5, 0, false, "", "", 0⟩, ⟨ "Code", 5, 1, false, "", "", 1⟩], 2, 2, .agg [.int .u8 0, .int .u8 0], .agg #[.int .u8 0, .int .u8 0], none, true⟩
def ti210 : TI := ⟨.struct #[⟨ "Var", 5, 0, false, "", "", 0⟩, ⟨ "Code", 5, 1, false, "", "", 1⟩], 2, 2, .agg [.int .u8 0, .int .u8 0], .agg #[.int .u8 0, .int .u8 0], none, true⟩
def ti211 : TI := ⟨.struct #[⟨ "Left", 210, 0, false, "", "", 0⟩, ⟨ "Op", 5, 2, false, "", "", 2⟩, ⟨ "Right", 210, 3, false, "", "", 3⟩], 5, 5, .agg [.int .u8 0, .int .u8 0, .int .u8 0, .int .u8 0, .int .u8 0], .agg #[.int .u8 0, .int .u8 0, .int .u8 0, .int .u8 0, .int .u8 0], none, true⟩
def ti212 : TI := ⟨.struct #[⟨ "Left", 210, 0, false, "", "", 0⟩, ⟨ "Op", 5, 2, false, "", "", 2⟩, ⟨ "Right", 210, 3, false, "", "", 3⟩], 5, 5, .agg [.int .u8 0, .int .u8 0, .int .u8 0, .int .u8 0, .int .u8 0], .agg #[.int .u8 0, .int .u8 0, .int .u8 0, .int .u8 0, .int .u8 0], none, true⟩
def ti213 : TI := ⟨.func #[3, 3, 210] #[134] false, 1, 8, .nilFn, .nilFunc, none, false⟩
def ti214 : TI := ⟨.func #[95, 172] #[3] false, 1, 8, .nilFn, .nilFunc, none, false⟩
def ti215 : TI := ⟨.func #[28] #[3] false, 1, 8, .nilFn, .nilFunc, none, false⟩
def ti216 : TI := ⟨.func #[3, 3] #[134] false, 1, 8, .nilFn, .nilFunc, none, false⟩
def ti217 : TI := ⟨.func #[41, 178] #[3] false, 1, 8, .nilFn, .nilFunc, none, false⟩
def ti218 : TI := ⟨.func #[36, 182] #[3] false, 1, 8, .nilFn, .nilFunc, none, false⟩
def ti219 : TI := ⟨.func #[33, 189] #[4] false, 1, 8, .nilFn, .nilFunc, none, false⟩
def ti220 : TI := ⟨.func #[97, 97, 33] #[3] false, 1, 8, .nilFn, .nilFunc, none, false⟩
def ti221 : TI := ⟨.func #[23, 41] #[4] false, 1, 8, .nilFn, .nilFunc, none, false⟩
def ti222 : TI := ⟨.func #[23, 223] #[4] false, 1, 8, .nilFn, .nilFunc, none, false⟩
def ti223 : TI := ⟨.func #[97] #[4] false, 1, 8, .nilFn, .nilFunc, none, false⟩
def ti224 : TI := ⟨.func #[23] #[23] false, 1, 8, .nilFn, .nilFunc, none, false⟩
def ti225 : TI := ⟨.func #[46, 3, 3, 3] #[] false, 1, 8, .nilFn, .nilFunc, none, false⟩
def ti226 : TI := ⟨.func #[47, 3, 3, 119] #[] false, 1, 8, .nilFn, .nilFunc, none, false⟩
def ti227 : TI := ⟨.int .i64, 1, 8, .int .i64 0, .int .i64 0, some (.int .i64), false⟩
def ti229 : TI := ⟨.func #[47, 3, 3, 119] #[3, 227] false, 1, 8, .nilFn, .nilFunc, none, false⟩
def ti230 : TI := ⟨.func #[47, 3, 3, 119] #[4] false, 1, 8, .nilFn, .nilFunc, none, false⟩
def ti231 : TI := ⟨.func #[47, 3, 3, 3, 119] #[3] false, 1, 8, .nilFn, .nilFunc, none, false⟩
def ti232 : TI := ⟨.func #[47, 3, 3, 3, 119] #[3, 4] false, 1, 8, .nilFn, .nilFunc, none, false⟩
def ti233 : TI := ⟨.func #[234] #[3] false, 1, 8, .nilFn, .nilFunc, none, false⟩
def ti234 : TI := ⟨.int .u64, 1, 8, .int .u64 0, .int .u64 0, some (.int .u64), false⟩
def ti235 : TI := ⟨.func #[95, 95] #[4] false, 1, 8, .nilFn, .nilFunc, none, false⟩
def ti236 : TI := ⟨.func #[97, 29] #[95] false, 1, 8, .nilFn, .nilFunc, none, false⟩
def ti237 : TI := ⟨.func #[132, 181] #[4] false, 1, 8, .nilFn, .nilFunc, none, false⟩
def ti238 : TI := ⟨.func #[132, 132] #[3] false, 1, 8, .nilFn, .nilFunc, none, false⟩
def ti239 : TI := ⟨.func #[137, 23] #[4] false, 1, 8, .nilFn, .nilFunc, none, false⟩
def ti240 : TI := ⟨.array 32 5, 32, 32, .agg [.int .u8 0, .int .u8 0, .int .u8 0, .int .u8 0, .int .u8 0, .int .u8 0, .int .u8 0, .int .u8 0, .int .u8 0, .int .u8 0, .int .u8 0, .int .u8 0, .int .u8 0, .int .u8 0, .int .u8 0, .int .u8 0, .int .u8 0, .int .u8 0, .int .u8 0, .int .u8 0, .int .u8 0, .int .u8 0, .int .u8 0, .int .u8 0, .int .u8 0, .int .u8 0, .int .u8 0, .int .u8 0, .int .u8 0, .int .u8 0, .int .u8 0, .int .u8 0], .agg #[.int .u8 0, .int .u8 0, .int .u8 0, .int .u8 0, .int .u8 0, .int .u8 0, .int .u8 0, .int .u8 0, .int .u8 0, .int .u8 0, .int .u8 0, .int .u8 0, .int .u8 0, .int .u8 0, .int .u8 0, .int .u8 0, .int .u8 0, .int .u8 0, .int .u8 0, .int .u8 0, .int .u8 0, .int .u8 0, .int .u8 0, .int .u8 0, .int .u8 0, .int .u8 0, .int .u8 0, .int .u8 0, .int .u8 0, .int .u8 0, .int .u8 0, .int .u8 0], none, true⟩
def ti241 : TI := ⟨.func #[33, 189] #[3] false, 1, 8, .nilFn, .nilFunc, none, false⟩
def ti242 : TI := ⟨.func #[23, 134] #[132] false, 1, 8, .nilFn, .nilFunc, none, false⟩
def ti243 : TI := ⟨.func #[23, 223] #[3] false, 1, 8, .nilFn, .nilFunc, none, false⟩
def ti244 : TI := ⟨.func #[46, 3, 3] #[] false, 1, 8, .nilFn, .nilFunc, none, false⟩
def ti245 : TI := ⟨.func #[46, 3, 3] #[3, 227] false, 1, 8, .nilFn, .nilFunc, none, false⟩
def ti246 : TI := ⟨.func #[46, 3, 3] #[4] false, 1, 8, .nilFn, .nilFunc, none, false⟩
def ti247 : TI := ⟨.func #[46, 3, 3, 3] #[3] false, 1, 8, .nilFn, .nilFunc, none, false⟩
def ti248 : TI := ⟨.func #[46, 3, 3, 3] #[3, 4] false, 1, 8, .nilFn, .nilFunc, none, false⟩
def ti249 : TI := ⟨.int .u64, 1, 8, .int .u64 0, .int .u64 0, some (.int .u64), false⟩
def ti250 : TI := ⟨.func #[3] #[157] false, 1, 8, .nilFn, .nilFunc, none, false⟩
def ti251 : TI := ⟨.func #[] #[234] false, 1, 8, .nilFn, .nilFunc, none, false⟩
def ti252 : TI := ⟨.func #[47, 3, 253, 119] #[3] false, 1, 8, .nilFn, .nilFunc, none, false⟩
def ti253 : TI := ⟨.pointer 3, 1, 8, .nilP, .pointer none, none, false⟩
def ti254 : TI := ⟨.func #[47, 3, 3, 3, 253, 119] #[3] false, 1, 8, .nilFn, .nilFunc, none, false⟩
def ti255 : TI := ⟨.func #[95, 95] #[3] false, 1, 8, .nilFn, .nilFunc, none, false⟩
def ti256 : TI := ⟨.func #[9, 9] #[3] false, 1, 8, .nilFn, .nilFunc, none, false⟩
def ti257 : TI := ⟨.func #[134, 23] #[132] false, 1, 8, .nilFn, .nilFunc, none, false⟩
def ti258 : TI := ⟨.func #[33] #[3] true, 1, 8, .nilFn, .nilFunc, none, false⟩
def ti259 : TI := ⟨.func #[3, 3] #[3] false, 1, 8, .nilFn, .nilFunc, none, false⟩
def ti260 : TI := ⟨.func #[46, 3, 253] #[3] false, 1, 8, .nilFn, .nilFunc, none, false⟩
def ti261 : TI := ⟨.func #[46, 3, 3, 3, 253] #[3] false, 1, 8, .nilFn, .nilFunc, none, false⟩
def ti262 : TI := ⟨.pointer 249, 1, 8, .nilP, .pointer none, none, false⟩
def ti264 : TI := ⟨.func #[47, 3, 3, 253, 119] #[3, 3] false, 1, 8, .nilFn, .nilFunc, none, false⟩
def ti265 : TI := ⟨.func #[46, 3, 3, 253] #[3, 3] false, 1, 8, .nilFn, .nilFunc, none, false⟩
def ti266 : TI := ⟨.func #[] #[9] false, 1, 8, .nilFn, .nilFunc, none, false⟩
def ti267 : TI := ⟨.struct #[⟨ "_interface", 17, 0, false, "", "runtime", 0⟩, ⟨ "concrete", 17, 1, false, "", "runtime", 8⟩, ⟨ "asserted", 17, 2, false, "", "runtime", 16⟩, ⟨ "missingMethod", 9, 3, false, "", "runtime", 24⟩], 4, 40, .agg [.nilP, .nilP, .nilP, .str ByteArray.empty], .agg #[.pointer none, .pointer none, .pointer none, .string ByteArray.empty], none, false⟩
def ti268 : TI := ⟨.struct #[⟨ "_interface", 17, 0, false, "", "runtime", 0⟩, ⟨ "concrete", 17, 1, false, "", "runtime", 8⟩, ⟨ "asserted", 17, 2, false, "", "runtime", 16⟩, ⟨ "missingMethod", 9, 3, false, "", "runtime", 24⟩], 4, 40, .agg [.nilP, .nilP, .nilP, .str ByteArray.empty], .agg #[.pointer none, .pointer none, .pointer none, .string ByteArray.empty], none, false⟩
def ti269 : TI := ⟨.array 0 16, 0, 0, .agg [], .agg #[], none, true⟩
def ti270 : TI := ⟨.struct #[⟨ "_", 269, 0, false, "", "runtime", 0⟩], 0, 0, .agg [], .agg #[], none, false⟩
def ti271 : TI := ⟨.struct #[⟨ "_", 269, 0, false, "", "runtime", 0⟩], 0, 0, .agg [], .agg #[], none, false⟩
def ti272 : TI := ⟨.func #[] #[3] false, 1, 8, .nilFn, .nilFunc, none, false⟩
def ti273 : TI := ⟨.int .u8, 1, 1, .int .u8 0, .int .u8 0, some (.int .u8), false⟩
def ti274 : TI := ⟨.int .u8, 1, 1, .int .u8 0, .int .u8 0, some (.int .u8), false⟩
def ti275 : TI := ⟨.func #[281, 281] #[4] false, 1, 8, .nilFn, .nilFunc, none, false⟩
def ti276 : TI := ⟨.pointer 5, 1, 8, .nilP, .pointer none, none, false⟩
def ti277 : TI := ⟨.int .i32, 1, 4, .int .i32 0, .int .i32 0, some (.int .i32), false⟩
def ti278 : TI := ⟨.int .i32, 1, 4, .int .i32 0, .int .i32 0, some (.int .i32), false⟩
def ti279 : TI := ⟨.struct #[⟨ "Size_", 12, 0, false, "", "", 0⟩, ⟨ "PtrBytes", 12, 1, false, "", "", 8⟩, ⟨ "Hash", 28, 2, false, "", "", 16⟩, ⟨ "TFlag", 273, 3, false, "", "", 20⟩, ⟨ "Align_", 5, 4, false, "", "", 21⟩, ⟨ "FieldAlign_", 5, 5, false, "", "", 22⟩, ⟨ "Kind_", 274, 6, false, "", "", 23⟩, ⟨ "Equal", 275, 7, false, "", "", 24⟩, ⟨ "GCData", 276, 8, false, "", "", 32⟩, ⟨ "Str", 277, 9, false, "", "", 40⟩, ⟨ "PtrToThis", 278, 10, false, "", "", 44⟩], 11, 48, .agg [.int .u64 0, .int .u64 0, .int .u32 0, .int .u8 0, .int .u8 0, .int .u8 0, .int .u8 0, .nilFn, .nilP, .int .i32 0, .int .i32 0], .agg #[.int .u64 0, .int .u64 0, .int .u32 0, .int .u8 0, .int .u8 0, .int .u8 0, .int .u8 0, .nilFunc, .pointer none, .int .i32 0, .int .i32 0], none, false⟩
def ti280 : TI := ⟨.struct #[⟨ "Size_", 12, 0, false, "", "", 0⟩, ⟨ "PtrBytes", 12, 1, false, "", "", 8⟩, ⟨ "Hash", 28, 2, false, "", "", 16⟩, ⟨ "TFlag", 273, 3, false, "", "", 20⟩, ⟨ "Align_", 5, 4, false, "", "", 21⟩, ⟨ "FieldAlign_", 5, 5, false, "", "", 22⟩, ⟨ "Kind_", 274, 6, false, "", "", 23⟩, ⟨ "Equal", 275, 7, false, "", "", 24⟩, ⟨ "GCData", 276, 8, false, "", "", 32⟩, ⟨ "Str", 277, 9, false, "", "", 40⟩, ⟨ "PtrToThis", 278, 10, false, "", "", 44⟩], 11, 48, .agg [.int .u64 0, .int .u64 0, .int .u32 0, .int .u8 0, .int .u8 0, .int .u8 0, .int .u8 0, .nilFn, .nilP, .int .i32 0, .int .i32 0], .agg #[.int .u64 0, .int .u64 0, .int .u32 0, .int .u8 0, .int .u8 0, .int .u8 0, .int .u8 0, .nilFunc, .pointer none, .int .i32 0, .int .i32 0], none, false⟩
def tys : List (Option TI) := [none, some ti1, some ti2, some ti3, some ti4, some ti5, some ti6, some ti7, some ti8, some ti9, some ti10, some ti11, some ti12, some ti13, some ti14, some ti15, some ti16, some ti17, some ti18, some ti19, none, some ti21, some ti22, some ti23, some ti24, some ti25, some ti26, some ti27, some ti28, some ti29, some ti30, some ti31, some ti32, some ti33, some ti34, some ti35, some ti36, some ti37, some ti38, some ti39, some ti40, some ti41, some ti42, some ti43, some ti44, some ti45, some ti46, some ti47, some ti48, some ti49, some ti50, none, some ti52, some ti53, some ti54, some ti55, some ti56, some ti57, some ti58, none, some ti60, some ti61, some ti62, some ti63, some ti64, some ti65, some ti66, some ti67, some ti68, some ti69, some ti70, some ti71, none, some ti73, none, some ti75, some ti76, some ti77, some ti78, some ti79, some ti80, some ti81, some ti82, some ti83, some ti84, some ti85, none, some ti87, some ti88, some ti89, none, some ti91, none, some ti93, some ti94, some ti95, some ti96, some ti97, some ti98, some ti99, some ti100, some ti101, none, some ti103, some ti104, some ti105, none, some ti107, some ti108, some ti109, some ti110, some ti111, some ti112, some ti113, some ti114, some ti115, some ti116, some ti117, some ti118, some ti119, some ti120, some ti121, some ti122, some ti123, some ti124, some ti125, some ti126, some ti127, some ti128, some ti129, some ti130, some ti131, some ti132, some ti133, some ti134, some ti135, some ti136, some ti137, some ti138, some ti139, some ti140, some ti141, some ti142, some ti143, some ti144, some ti145, some ti146, some ti147, some ti148, some ti149, some ti150, some ti151, some ti152, some ti153, some ti154, some ti155, some ti156, some ti157, some ti158, some ti159, some ti160, some ti161, none, some ti163, some ti164, some ti165, some ti166, some ti167, some ti168, some ti169, some ti170, some ti171, some ti172, some ti173, some ti174, some ti175, some ti176, some ti177, some ti178, some ti179, some ti180, some ti181, some ti182, some ti183, some ti184, some ti185, some ti186, some ti187, some ti188, some ti189, some ti190, some ti191, some ti192, some ti193, some ti194, some ti195, some ti196, some ti197, some ti198, some ti199, some ti200, some ti201, some ti202, some ti203, some ti204, some ti205, some ti206, some ti207, some ti208, some ti209, some ti210, some ti211, some ti212, some ti213, some ti214, some ti215, some ti216, some ti217, some ti218, some ti219, some ti220, some ti221, some ti222, some ti223, some ti224, some ti225, some ti226, some ti227, none, some ti229, some ti230, some ti231, some ti232, some ti233, some ti234, some ti235, some ti236, some ti237, some ti238, some ti239, some ti240, some ti241, some ti242, some ti243, some ti244, some ti245, some ti246, some ti247, some ti248, some ti249, some ti250, some ti251, some ti252, some ti253, some ti254, some ti255, some ti256, some ti257, some ti258, some ti259, some ti260, some ti261, some ti262, none, some ti264, some ti265, some ti266, some ti267, some ti268, some ti269, some ti270, some ti271, some ti272, some ti273, some ti274, some ti275, some ti276, some ti277, some ti278, some ti279, some ti280]
def T : Ty := fun t => (tys[t]?).getD none
@[simp] theorem T_1 : T 1 = some ⟨.func #[] #[] false, 1, 8, .nilFn, .nilFunc, none, false⟩ := rfl
@[simp] theorem T_2 : T 2 = some ⟨.int .i64, 1, 8, .int .i64 0, .int .i64 0, some (.int .i64), false⟩ := rfl
@[simp] theorem T_3 : T 3 = some ⟨.int .i64, 1, 8, .int .i64 0, .int .i64 0, some (.int .i64), false⟩ := rfl
@[simp] theorem T_4 : T 4 = some ⟨.bool, 1, 1, .bool false, .bool false, some .bool, false⟩ := rfl
@[simp] theorem T_5 : T 5 = some ⟨.int .u8, 1, 1, .int .u8 0, .int .u8 0, some (.int .u8), false⟩ := rfl
@[simp] theorem T_6 : T 6 = some ⟨.int .u8, 1, 1, .int .u8 0, .int .u8 0, some (.int .u8), false⟩ := rfl
@[simp] theorem T_7 : T 7 = some ⟨.struct #[⟨ "x", 2, 0, false, "", "runtime", 0⟩, ⟨ "y", 3, 1, false, "", "runtime", 8⟩, ⟨ "signed", 4, 2, false, "", "runtime", 16⟩, ⟨ "code", 6, 3, false, "", "runtime", 17⟩], 4, 24, .agg [.int .i64 0, .int .i64 0, .bool false, .int .u8 0], .agg #[.int .i64 0, .int .i64 0, .bool false, .int .u8 0], none, true⟩ := rfl
@[simp] theorem T_8 : T 8 = some ⟨.struct #[⟨ "x", 2, 0, false, "", "runtime", 0⟩, ⟨ "y", 3, 1, false, "", "runtime", 8⟩, ⟨ "signed", 4, 2, false, "", "runtime", 16⟩, ⟨ "code", 6, 3, false, "", "runtime", 17⟩], 4, 24, .agg [.int .i64 0, .int .i64 0, .bool false, .int .u8 0], .agg #[.int .i64 0, .int .i64 0, .bool false, .int .u8 0], none, true⟩ := rfl
@[simp] theorem T_9 : T 9 = some ⟨.string, 1, 16, .str ByteArray.empty, .string ByteArray.empty, some .str, false⟩ := rfl
@[simp] theorem T_10 : T 10 = some ⟨.string, 1, 16, .str ByteArray.empty, .string ByteArray.empty, some .str, false⟩ := rfl
@[simp] theorem T_11 : T 11 = some ⟨.string, 1, 16, .str ByteArray.empty, .string ByteArray.empty, some .str, false⟩ := rfl
@[simp] theorem T_12 : T 12 = some ⟨.int .u64, 1, 8, .int .u64 0, .int .u64 0, some (.int .u64), false⟩ := rfl
@[simp] theorem T_13 : T 13 = some ⟨.struct #[⟨ "msg", 9, 0, false, "", "runtime", 0⟩, ⟨ "addr", 12, 1, false, "", "runtime", 16⟩], 2, 24, .agg [.str ByteArray.empty, .int .u64 0], .agg #[.string ByteArray.empty, .int .u64 0], none, false⟩ := rfl
@[simp] theorem T_14 : T 14 = some ⟨.struct #[⟨ "msg", 9, 0, false, "", "runtime", 0⟩, ⟨ "addr", 12, 1, false, "", "runtime", 16⟩], 2, 24, .agg [.str ByteArray.empty, .int .u64 0], .agg #[.string ByteArray.empty, .int .u64 0], none, false⟩ := rfl
@[simp] theorem T_15 : T 15 = some ⟨.pointer 268, 1, 8, .nilP, .pointer none, none, false⟩ := rfl
@[simp] theorem T_16 : T 16 = some ⟨.pointer 271, 1, 8, .nilP, .pointer none, none, false⟩ := rfl
@[simp] theorem T_17 : T 17 = some ⟨.pointer 280, 1, 8, .nilP, .pointer none, none, false⟩ := rfl
@[simp] theorem T_18 : T 18 = some ⟨.struct #[⟨ "typ", 17, 0, false, "", "internal/runtime/maps", 0⟩], 1, 8, .agg [.nilP], .agg #[.pointer none], none, false⟩ := rfl
@[simp] theorem T_19 : T 19 = some ⟨.struct #[⟨ "typ", 17, 0, false, "", "internal/runtime/maps", 0⟩], 1, 8, .agg [.nilP], .agg #[.pointer none], none, false⟩ := rfl
@[simp] theorem T_21 : T 21 = some ⟨.int .i32, 1, 4, .int .i32 0, .int .i32 0, some (.int .i32), false⟩ := rfl
@[simp] theorem T_22 : T 22 = some ⟨.slice 9, 1, 24, .nilS, .slice none 0 0, none, false⟩ := rfl
@[simp] theorem T_23 : T 23 = some ⟨.slice 97, 1, 24, .nilS, .slice none 0 0, none, false⟩ := rfl
@[simp] theorem T_24 : T 24 = some ⟨.struct #[⟨ "Name", 9, 0, false, "", "", 0⟩, ⟨ "Attrs", 22, 1, false, "", "", 16⟩, ⟨ "Rows", 23, 2, false, "", "", 40⟩], 3, 64, .agg [.str ByteArray.empty, .nilS, .nilS], .agg #[.string ByteArray.empty, .slice none 0 0, .slice none 0 0], none, true⟩ := rfl
@[simp] theorem T_25 : T 25 = some ⟨.struct #[⟨ "Name", 9, 0, false, "", "", 0⟩, ⟨ "Attrs", 22, 1, false, "", "", 16⟩, ⟨ "Rows", 23, 2, false, "", "", 40⟩], 3, 64, .agg [.str ByteArray.empty, .nilS, .nilS], .agg #[.string ByteArray.empty, .slice none 0 0, .slice none 0 0], none, true⟩ := rfl
@[simp] theorem T_26 : T 26 = some ⟨.slice 45, 1, 24, .nilS, .slice none 0 0, none, false⟩ := rfl
@[simp] theorem T_27 : T 27 = some ⟨.func #[] #[4] false, 1, 8, .nilFn, .nilFunc, none, false⟩ := rfl
@[simp] theorem T_28 : T 28 = some ⟨.int .u32, 1, 4, .int .u32 0, .int .u32 0, some (.int .u32), false⟩ := rfl
@[simp] theorem T_29 : T 29 = some ⟨.int .u32, 1, 4, .int .u32 0, .int .u32 0, some (.int .u32), false⟩ := rfl
@[simp] theorem T_30 : T 30 = some ⟨.struct #[⟨ "Lhs", 29, 0, false, "", "", 0⟩, ⟨ "Rhs", 29, 1, false, "", "", 4⟩], 2, 8, .agg [.int .u32 0, .int .u32 0], .agg #[.int .u32 0, .int .u32 0], none, true⟩ := rfl
@[simp] theorem T_31 : T 31 = some ⟨.struct #[⟨ "Lhs", 29, 0, false, "", "", 0⟩, ⟨ "Rhs", 29, 1, false, "", "", 4⟩], 2, 8, .agg [.int .u32 0, .int .u32 0], .agg #[.int .u32 0, .int .u32 0], none, true⟩ := rfl
@[simp] theorem T_32 : T 32 = some ⟨.struct #[⟨ "Lhs", 29, 0, false, "", "", 0⟩, ⟨ "Rhs", 29, 1, false, "", "", 4⟩], 2, 8, .agg [.int .u32 0, .int .u32 0], .agg #[.int .u32 0, .int .u32 0], none, true⟩ := rfl
@[simp] theorem T_33 : T 33 = some ⟨.slice 3, 1, 24, .nilS, .slice none 0 0, none, false⟩ := rfl
@[simp] theorem T_34 : T 34 = some ⟨.struct #[⟨ "From", 9, 0, false, "", "", 0⟩, ⟨ "Lhs", 33, 1, false, "", "", 16⟩, ⟨ "To", 9, 2, false, "", "", 40⟩, ⟨ "Rhs", 33, 3, false, "", "", 56⟩], 4, 80, .agg [.str ByteArray.empty, .nilS, .str ByteArray.empty, .nilS], .agg #[.string ByteArray.empty, .slice none 0 0, .string ByteArray.empty, .slice none 0 0], none, true⟩ := rfl
@[simp] theorem T_35 : T 35 = some ⟨.struct #[⟨ "From", 9, 0, false, "", "", 0⟩, ⟨ "Lhs", 33, 1, false, "", "", 16⟩, ⟨ "To", 9, 2, false, "", "", 40⟩, ⟨ "Rhs", 33, 3, false, "", "", 56⟩], 4, 80, .agg [.str ByteArray.empty, .nilS, .str ByteArray.empty, .nilS], .agg #[.string ByteArray.empty, .slice none 0 0, .string ByteArray.empty, .slice none 0 0], none, true⟩ := rfl
@[simp] theorem T_36 : T 36 = some ⟨.slice 181, 1, 24, .nilS, .slice none 0 0, none, false⟩ := rfl
@[simp] theorem T_37 : T 37 = some ⟨.struct #[⟨ "Lhs", 33, 0, false, "", "", 0⟩, ⟨ "Rhs", 3, 1, false, "", "", 24⟩, ⟨ "Pattern", 36, 2, false, "", "", 32⟩], 3, 56, .agg [.nilS, .int .i64 0, .nilS], .agg #[.slice none 0 0, .int .i64 0, .slice none 0 0], none, true⟩ := rfl
@[simp] theorem T_38 : T 38 = some ⟨.struct #[⟨ "Lhs", 33, 0, false, "", "", 0⟩, ⟨ "Rhs", 3, 1, false, "", "", 24⟩, ⟨ "Pattern", 36, 2, false, "", "", 32⟩], 3, 56, .agg [.nilS, .int .i64 0, .nilS], .agg #[.slice none 0 0, .int .i64 0, .slice none 0 0], none, true⟩ := rfl
@[simp] theorem T_39 : T 39 = some ⟨.struct #[⟨ "Lhs", 33, 0, false, "", "", 0⟩, ⟨ "Rhs", 33, 1, false, "", "", 24⟩], 2, 48, .agg [.nilS, .nilS], .agg #[.slice none 0 0, .slice none 0 0], none, true⟩ := rfl
@[simp] theorem T_40 : T 40 = some ⟨.struct #[⟨ "Lhs", 33, 0, false, "", "", 0⟩, ⟨ "Rhs", 33, 1, false, "", "", 24⟩], 2, 48, .agg [.nilS, .nilS], .agg #[.slice none 0 0, .slice none 0 0], none, true⟩ := rfl
@[simp] theorem T_41 : T 41 = some ⟨.slice 137, 1, 24, .nilS, .slice none 0 0, none, false⟩ := rfl
@[simp] theorem T_42 : T 42 = some ⟨.struct #[⟨ "Vars", 3, 0, false, "", "", 0⟩, ⟨ "Atoms", 41, 1, false, "", "", 8⟩], 2, 32, .agg [.int .i64 0, .nilS], .agg #[.int .i64 0, .slice none 0 0], none, true⟩ := rfl
@[simp] theorem T_43 : T 43 = some ⟨.struct #[⟨ "Vars", 3, 0, false, "", "", 0⟩, ⟨ "Atoms", 41, 1, false, "", "", 8⟩], 2, 32, .agg [.int .i64 0, .nilS], .agg #[.int .i64 0, .slice none 0 0], none, true⟩ := rfl
@[simp] theorem T_44 : T 44 = some ⟨.struct #[⟨ "Name", 9, 0, false, "", "", 0⟩, ⟨ "Table", 9, 1, false, "", "", 16⟩, ⟨ "Kind", 3, 2, false, "", "", 32⟩, ⟨ "FD", 31, 3, false, "", "", 40⟩, ⟨ "MVD", 32, 5, false, "", "", 48⟩, ⟨ "IND", 35, 7, false, "", "", 56⟩, ⟨ "CFD", 38, 11, false, "", "", 136⟩, ⟨ "OD", 40, 14, false, "", "", 192⟩, ⟨ "Denial", 43, 16, false, "", "", 240⟩], 18, 272, .agg [.str ByteArray.empty, .str ByteArray.empty, .int .i64 0, .int .u32 0, .int .u32 0, .int .u32 0, .int .u32 0, .str ByteArray.empty, .nilS, .str ByteArray.empty, .nilS, .nilS, .int .i64 0, .nilS, .nilS, .nilS, .int .i64 0, .nilS], .agg #[.string ByteArray.empty, .string ByteArray.empty, .int .i64 0, .int .u32 0, .int .u32 0, .int .u32 0, .int .u32 0, .string ByteArray.empty, .slice none 0 0, .string ByteArray.empty, .slice none 0 0, .slice none 0 0, .int .i64 0, .slice none 0 0, .slice none 0 0, .slice none 0 0, .int .i64 0, .slice none 0 0], none, true⟩ := rfl
@[simp] theorem T_45 : T 45 = some ⟨.struct #[⟨ "Name", 9, 0, false, "", "", 0⟩, ⟨ "Table", 9, 1, false, "", "", 16⟩, ⟨ "Kind", 3, 2, false, "", "", 32⟩, ⟨ "FD", 31, 3, false, "", "", 40⟩, ⟨ "MVD", 32, 5, false, "", "", 48⟩, ⟨ "IND", 35, 7, false, "", "", 56⟩, ⟨ "CFD", 38, 11, false, "", "", 136⟩, ⟨ "OD", 40, 14, false, "", "", 192⟩, ⟨ "Denial", 43, 16, false, "", "", 240⟩], 18, 272, .agg [.str ByteArray.empty, .str ByteArray.empty, .int .i64 0, .int .u32 0, .int .u32 0, .int .u32 0, .int .u32 0, .str ByteArray.empty, .nilS, .str ByteArray.empty, .nilS, .nilS, .int .i64 0, .nilS, .nilS, .nilS, .int .i64 0, .nilS], .agg #[.string ByteArray.empty, .string ByteArray.empty, .int .i64 0, .int .u32 0, .int .u32 0, .int .u32 0, .int .u32 0, .string ByteArray.empty, .slice none 0 0, .string ByteArray.empty, .slice none 0 0, .slice none 0 0, .int .i64 0, .slice none 0 0, .slice none 0 0, .slice none 0 0, .int .i64 0, .slice none 0 0], none, true⟩ := rfl
@[simp] theorem T_46 : T 46 = some ⟨.slice 2, 1, 24, .nilS, .slice none 0 0, none, false⟩ := rfl
@[simp] theorem T_47 : T 47 = some ⟨.slice 46, 1, 24, .nilS, .slice none 0 0, none, false⟩ := rfl
@[simp] theorem T_48 : T 48 = some ⟨.struct #[⟨ "Vertices", 46, 0, false, "", "", 0⟩, ⟨ "Edges", 47, 1, false, "", "", 24⟩], 2, 48, .agg [.nilS, .nilS], .agg #[.slice none 0 0, .slice none 0 0], none, true⟩ := rfl
@[simp] theorem T_49 : T 49 = some ⟨.struct #[⟨ "Vertices", 46, 0, false, "", "", 0⟩, ⟨ "Edges", 47, 1, false, "", "", 24⟩], 2, 48, .agg [.nilS, .nilS], .agg #[.slice none 0 0, .slice none 0 0], none, true⟩ := rfl
@[simp] theorem T_50 : T 50 = some ⟨.int .i64, 1, 8, .int .i64 0, .int .i64 0, some (.int .i64), false⟩ := rfl
@[simp] theorem T_52 : T 52 = some ⟨.func #[25, 26] #[49, 50] false, 1, 8, .nilFn, .nilFunc, none, false⟩ := rfl
@[simp] theorem T_53 : T 53 = some ⟨.func #[26] #[26] false, 1, 8, .nilFn, .nilFunc, none, false⟩ := rfl
@[simp] theorem T_54 : T 54 = some ⟨.func #[49, 49] #[4] false, 1, 8, .nilFn, .nilFunc, none, false⟩ := rfl
@[simp] theorem T_55 : T 55 = some ⟨.func #[25, 26] #[4] false, 1, 8, .nilFn, .nilFunc, none, false⟩ := rfl
@[simp] theorem T_56 : T 56 = some ⟨.slice 5, 1, 24, .nilS, .slice none 0 0, none, false⟩ := rfl
@[simp] theorem T_57 : T 57 = some ⟨.struct #[⟨ "N", 5, 0, false, "", "", 0⟩, ⟨ "Edges", 56, 1, false, "", "", 8⟩], 2, 32, .agg [.int .u8 0, .nilS], .agg #[.int .u8 0, .slice none 0 0], none, true⟩ := rfl
@[simp] theorem T_58 : T 58 = some ⟨.struct #[⟨ "N", 5, 0, false, "", "", 0⟩, ⟨ "Edges", 56, 1, false, "", "", 8⟩], 2, 32, .agg [.int .u8 0, .nilS], .agg #[.int .u8 0, .slice none 0 0], none, true⟩ := rfl
@[simp] theorem T_60 : T 60 = some ⟨.func #[58] #[49, 4] false, 1, 8, .nilFn, .nilFunc, none, false⟩ := rfl
@[simp] theorem T_61 : T 61 = some ⟨.func #[49, 46] #[4] false, 1, 8, .nilFn, .nilFunc, none, false⟩ := rfl
@[simp] theorem T_62 : T 62 = some ⟨.func #[46] #[46] false, 1, 8, .nilFn, .nilFunc, none, false⟩ := rfl
@[simp] theorem T_63 : T 63 = some ⟨.func #[58, 46] #[4] false, 1, 8, .nilFn, .nilFunc, none, false⟩ := rfl
@[simp] theorem T_64 : T 64 = some ⟨.func #[49, 2] #[3] false, 1, 8, .nilFn, .nilFunc, none, false⟩ := rfl
@[simp] theorem T_65 : T 65 = some ⟨.func #[46, 46] #[4] false, 1, 8, .nilFn, .nilFunc, none, false⟩ := rfl
@[simp] theorem T_66 : T 66 = some ⟨.func #[49] #[46] false, 1, 8, .nilFn, .nilFunc, none, false⟩ := rfl
@[simp] theorem T_67 : T 67 = some ⟨.func #[58, 2] #[4] false, 1, 8, .nilFn, .nilFunc, none, false⟩ := rfl
@[simp] theorem T_68 : T 68 = some ⟨.slice 56, 1, 24, .nilS, .slice none 0 0, none, false⟩ := rfl
@[simp] theorem T_69 : T 69 = some ⟨.struct #[⟨ "Attrs", 5, 0, false, "", "", 0⟩, ⟨ "Gap", 5, 1, false, "", "", 1⟩, ⟨ "Rows", 68, 2, false, "", "", 8⟩], 3, 32, .agg [.int .u8 0, .int .u8 0, .nilS], .agg #[.int .u8 0, .int .u8 0, .slice none 0 0], none, true⟩ := rfl
@[simp] theorem T_70 : T 70 = some ⟨.struct #[⟨ "Attrs", 5, 0, false, "", "", 0⟩, ⟨ "Gap", 5, 1, false, "", "", 1⟩, ⟨ "Rows", 68, 2, false, "", "", 8⟩], 3, 32, .agg [.int .u8 0, .int .u8 0, .nilS], .agg #[.int .u8 0, .int .u8 0, .slice none 0 0], none, true⟩ := rfl
@[simp] theorem T_71 : T 71 = some ⟨.slice 118, 1, 24, .nilS, .slice none 0 0, none, false⟩ := rfl
@[simp] theorem T_73 : T 73 = some ⟨.func #[70, 3] #[25, 4] false, 1, 8, .nilFn, .nilFunc, none, false⟩ := rfl
@[simp] theorem T_75 : T 75 = some ⟨.func #[3, 71] #[26, 4] false, 1, 8, .nilFn, .nilFunc, none, false⟩ := rfl
@[simp] theorem T_76 : T 76 = some ⟨.func #[49] #[4] false, 1, 8, .nilFn, .nilFunc, none, false⟩ := rfl
@[simp] theorem T_77 : T 77 = some ⟨.func #[70, 71] #[4] false, 1, 8, .nilFn, .nilFunc, none, false⟩ := rfl
@[simp] theorem T_78 : T 78 = some ⟨.func #[49, 5] #[46] false, 1, 8, .nilFn, .nilFunc, none, false⟩ := rfl
@[simp] theorem T_79 : T 79 = some ⟨.func #[46, 2] #[4] false, 1, 8, .nilFn, .nilFunc, none, false⟩ := rfl
@[simp] theorem T_80 : T 80 = some ⟨.func #[25, 46] #[25] false, 1, 8, .nilFn, .nilFunc, none, false⟩ := rfl
@[simp] theorem T_81 : T 81 = some ⟨.func #[49, 46] #[49] false, 1, 8, .nilFn, .nilFunc, none, false⟩ := rfl
@[simp] theorem T_82 : T 82 = some ⟨.func #[70, 71, 5] #[4] false, 1, 8, .nilFn, .nilFunc, none, false⟩ := rfl
@[simp] theorem T_83 : T 83 = some ⟨.slice 49, 1, 24, .nilS, .slice none 0 0, none, false⟩ := rfl
@[simp] theorem T_84 : T 84 = some ⟨.func #[49] #[83] false, 1, 8, .nilFn, .nilFunc, none, false⟩ := rfl
@[simp] theorem T_85 : T 85 = some ⟨.func #[58, 5] #[4] false, 1, 8, .nilFn, .nilFunc, none, false⟩ := rfl
@[simp] theorem T_87 : T 87 = some ⟨.func #[] #[25, 26] false, 1, 8, .nilFn, .nilFunc, none, false⟩ := rfl
@[simp] theorem T_88 : T 88 = some ⟨.func #[25] #[50] false, 1, 8, .nilFn, .nilFunc, none, false⟩ := rfl
@[simp] theorem T_89 : T 89 = some ⟨.slice 43, 1, 24, .nilS, .slice none 0 0, none, false⟩ := rfl
@[simp] theorem T_91 : T 91 = some ⟨.func #[25, 45] #[89, 50] false, 1, 8, .nilFn, .nilFunc, none, false⟩ := rfl
@[simp] theorem T_93 : T 93 = some ⟨.func #[25, 45] #[47, 50] false, 1, 8, .nilFn, .nilFunc, none, false⟩ := rfl
@[simp] theorem T_94 : T 94 = some ⟨.func #[47] #[47] false, 1, 8, .nilFn, .nilFunc, none, false⟩ := rfl
@[simp] theorem T_95 : T 95 = some ⟨.slice 132, 1, 24, .nilS, .slice none 0 0, none, false⟩ := rfl
@[simp] theorem T_96 : T 96 = some ⟨.struct #[⟨ "ID", 2, 0, false, "", "", 0⟩, ⟨ "Values", 95, 1, false, "", "", 8⟩], 2, 32, .agg [.int .i64 0, .nilS], .agg #[.int .i64 0, .slice none 0 0], none, true⟩ := rfl
@[simp] theorem T_97 : T 97 = some ⟨.struct #[⟨ "ID", 2, 0, false, "", "", 0⟩, ⟨ "Values", 95, 1, false, "", "", 8⟩], 2, 32, .agg [.int .i64 0, .nilS], .agg #[.int .i64 0, .slice none 0 0], none, true⟩ := rfl
@[simp] theorem T_98 : T 98 = some ⟨.func #[25] #[46] false, 1, 8, .nilFn, .nilFunc, none, false⟩ := rfl
@[simp] theorem T_99 : T 99 = some ⟨.func #[47, 47] #[4] false, 1, 8, .nilFn, .nilFunc, none, false⟩ := rfl
@[simp] theorem T_100 : T 100 = some ⟨.func #[46] #[4] false, 1, 8, .nilFn, .nilFunc, none, false⟩ := rfl
@[simp] theorem T_101 : T 101 = some ⟨.func #[47, 100] #[4] false, 1, 8, .nilFn, .nilFunc, none, false⟩ := rfl
@[simp] theorem T_103 : T 103 = some ⟨.func #[46, 2] #[3, 4] false, 1, 8, .nilFn, .nilFunc, none, false⟩ := rfl
@[simp] theorem T_104 : T 104 = some ⟨.func #[46, 3, 46] #[46] true, 1, 8, .nilFn, .nilFunc, none, false⟩ := rfl
@[simp] theorem T_105 : T 105 = some ⟨.func #[70, 3] #[25] false, 1, 8, .nilFn, .nilFunc, none, false⟩ := rfl
@[simp] theorem T_107 : T 107 = some ⟨.func #[3, 118] #[45, 4] false, 1, 8, .nilFn, .nilFunc, none, false⟩ := rfl
@[simp] theorem T_108 : T 108 = some ⟨.struct #[⟨ "L", 5, 0, false, "", "", 0⟩, ⟨ "R", 5, 1, false, "", "", 1⟩], 2, 2, .agg [.int .u8 0, .int .u8 0], .agg #[.int .u8 0, .int .u8 0], none, true⟩ := rfl
@[simp] theorem T_109 : T 109 = some ⟨.struct #[⟨ "L", 5, 0, false, "", "", 0⟩, ⟨ "R", 5, 1, false, "", "", 1⟩], 2, 2, .agg [.int .u8 0, .int .u8 0], .agg #[.int .u8 0, .int .u8 0], none, true⟩ := rfl
@[simp] theorem T_110 : T 110 = some ⟨.struct #[⟨ "Lhs", 5, 0, false, "", "", 0⟩, ⟨ "Rhs", 5, 1, false, "", "", 1⟩, ⟨ "Codes", 56, 2, false, "", "", 8⟩], 3, 32, .agg [.int .u8 0, .int .u8 0, .nilS], .agg #[.int .u8 0, .int .u8 0, .slice none 0 0], none, true⟩ := rfl
@[simp] theorem T_111 : T 111 = some ⟨.struct #[⟨ "Lhs", 5, 0, false, "", "", 0⟩, ⟨ "Rhs", 5, 1, false, "", "", 1⟩, ⟨ "Codes", 56, 2, false, "", "", 8⟩], 3, 32, .agg [.int .u8 0, .int .u8 0, .nilS], .agg #[.int .u8 0, .int .u8 0, .slice none 0 0], none, true⟩ := rfl
@[simp] theorem T_112 : T 112 = some ⟨.struct #[⟨ "X", 56, 0, false, "", "", 0⟩, ⟨ "Y", 56, 1, false, "", "", 24⟩], 2, 48, .agg [.nilS, .nilS], .agg #[.slice none 0 0, .slice none 0 0], none, true⟩ := rfl
@[simp] theorem T_113 : T 113 = some ⟨.struct #[⟨ "X", 56, 0, false, "", "", 0⟩, ⟨ "Y", 56, 1, false, "", "", 24⟩], 2, 48, .agg [.nilS, .nilS], .agg #[.slice none 0 0, .slice none 0 0], none, true⟩ := rfl
@[simp] theorem T_114 : T 114 = some ⟨.slice 212, 1, 24, .nilS, .slice none 0 0, none, false⟩ := rfl
@[simp] theorem T_115 : T 115 = some ⟨.struct #[⟨ "Vars", 5, 0, false, "", "", 0⟩, ⟨ "Atoms", 114, 1, false, "", "", 8⟩], 2, 32, .agg [.int .u8 0, .nilS], .agg #[.int .u8 0, .slice none 0 0], none, true⟩ := rfl
@[simp] theorem T_116 : T 116 = some ⟨.struct #[⟨ "Vars", 5, 0, false, "", "", 0⟩, ⟨ "Atoms", 114, 1, false, "", "", 8⟩], 2, 32, .agg [.int .u8 0, .nilS], .agg #[.int .u8 0, .slice none 0 0], none, true⟩ := rfl
@[simp] theorem T_117 : T 117 = some ⟨.struct #[⟨ "Kind", 5, 0, false, "", "", 0⟩, ⟨ "F", 109, 1, false, "", "", 1⟩, ⟨ "C", 111, 3, false, "", "", 8⟩, ⟨ "O", 113, 6, false, "", "", 40⟩, ⟨ "N", 116, 8, false, "", "", 88⟩], 10, 120, .agg [.int .u8 0, .int .u8 0, .int .u8 0, .int .u8 0, .int .u8 0, .nilS, .nilS, .nilS, .int .u8 0, .nilS], .agg #[.int .u8 0, .int .u8 0, .int .u8 0, .int .u8 0, .int .u8 0, .slice none 0 0, .slice none 0 0, .slice none 0 0, .int .u8 0, .slice none 0 0], none, true⟩ := rfl
@[simp] theorem T_118 : T 118 = some ⟨.struct #[⟨ "Kind", 5, 0, false, "", "", 0⟩, ⟨ "F", 109, 1, false, "", "", 1⟩, ⟨ "C", 111, 3, false, "", "", 8⟩, ⟨ "O", 113, 6, false, "", "", 40⟩, ⟨ "N", 116, 8, false, "", "", 88⟩], 10, 120, .agg [.int .u8 0, .int .u8 0, .int .u8 0, .int .u8 0, .int .u8 0, .nilS, .nilS, .nilS, .int .u8 0, .nilS], .agg #[.int .u8 0, .int .u8 0, .int .u8 0, .int .u8 0, .int .u8 0, .slice none 0 0, .slice none 0 0, .slice none 0 0, .int .u8 0, .slice none 0 0], none, true⟩ := rfl
@[simp] theorem T_119 : T 119 = some ⟨.func #[46, 46] #[3] false, 1, 8, .nilFn, .nilFunc, none, false⟩ := rfl
@[simp] theorem T_120 : T 120 = some ⟨.func #[29, 3] #[4] false, 1, 8, .nilFn, .nilFunc, none, false⟩ := rfl
@[simp] theorem T_121 : T 121 = some ⟨.func #[46, 2] #[3] false, 1, 8, .nilFn, .nilFunc, none, false⟩ := rfl
@[simp] theorem T_122 : T 122 = some ⟨.func #[25, 23] #[25] false, 1, 8, .nilFn, .nilFunc, none, false⟩ := rfl
@[simp] theorem T_123 : T 123 = some ⟨.map 2 4, 1, 8, .nilM, .map none, none, false⟩ := rfl
@[simp] theorem T_124 : T 124 = some ⟨.func #[46, 125] #[4] false, 1, 8, .nilFn, .nilFunc, none, false⟩ := rfl
@[simp] theorem T_125 : T 125 = some ⟨.func #[2] #[4] false, 1, 8, .nilFn, .nilFunc, none, false⟩ := rfl
@[simp] theorem T_126 : T 126 = some ⟨.func #[3] #[3] false, 1, 8, .nilFn, .nilFunc, none, false⟩ := rfl
@[simp] theorem T_127 : T 127 = some ⟨.func #[2] #[3] false, 1, 8, .nilFn, .nilFunc, none, false⟩ := rfl
@[simp] theorem T_128 : T 128 = some ⟨.map 3 3, 1, 8, .nilM, .map none, none, false⟩ := rfl
@[simp] theorem T_129 : T 129 = some ⟨.pointer 49, 1, 8, .nilP, .pointer none, none, false⟩ := rfl
@[simp] theorem T_130 : T 130 = some ⟨.func #[56] #[95] false, 1, 8, .nilFn, .nilFunc, none, false⟩ := rfl
@[simp] theorem T_131 : T 131 = some ⟨.struct #[⟨ "Kind", 3, 0, false, "", "", 0⟩, ⟨ "Num", 2, 1, false, "", "", 8⟩, ⟨ "Str", 9, 2, false, "", "", 16⟩], 3, 32, .agg [.int .i64 0, .int .i64 0, .str ByteArray.empty], .agg #[.int .i64 0, .int .i64 0, .string ByteArray.empty], none, true⟩ := rfl
@[simp] theorem T_132 : T 132 = some ⟨.struct #[⟨ "Kind", 3, 0, false, "", "", 0⟩, ⟨ "Num", 2, 1, false, "", "", 8⟩, ⟨ "Str", 9, 2, false, "", "", 16⟩], 3, 32, .agg [.int .i64 0, .int .i64 0, .str ByteArray.empty], .agg #[.int .i64 0, .int .i64 0, .string ByteArray.empty], none, true⟩ := rfl
@[simp] theorem T_133 : T 133 = some ⟨.struct #[⟨ "Var", 3, 0, false, "", "", 0⟩, ⟨ "Attr", 3, 1, false, "", "", 8⟩, ⟨ "Value", 132, 2, false, "", "", 16⟩], 5, 48, .agg [.int .i64 0, .int .i64 0, .int .i64 0, .int .i64 0, .str ByteArray.empty], .agg #[.int .i64 0, .int .i64 0, .int .i64 0, .int .i64 0, .string ByteArray.empty], none, true⟩ := rfl
@[simp] theorem T_134 : T 134 = some ⟨.struct #[⟨ "Var", 3, 0, false, "", "", 0⟩, ⟨ "Attr", 3, 1, false, "", "", 8⟩, ⟨ "Value", 132, 2, false, "", "", 16⟩], 5, 48, .agg [.int .i64 0, .int .i64 0, .int .i64 0, .int .i64 0, .str ByteArray.empty], .agg #[.int .i64 0, .int .i64 0, .int .i64 0, .int .i64 0, .string ByteArray.empty], none, true⟩ := rfl
@[simp] theorem T_135 : T 135 = some ⟨.func #[5] #[132] false, 1, 8, .nilFn, .nilFunc, none, false⟩ := rfl
@[simp] theorem T_136 : T 136 = some ⟨.struct #[⟨ "Left", 134, 0, false, "", "", 0⟩, ⟨ "Op", 3, 5, false, "", "", 48⟩, ⟨ "Right", 134, 6, false, "", "", 56⟩], 11, 104, .agg [.int .i64 0, .int .i64 0, .int .i64 0, .int .i64 0, .str ByteArray.empty, .int .i64 0, .int .i64 0, .int .i64 0, .int .i64 0, .int .i64 0, .str ByteArray.empty], .agg #[.int .i64 0, .int .i64 0, .int .i64 0, .int .i64 0, .string ByteArray.empty, .int .i64 0, .int .i64 0, .int .i64 0, .int .i64 0, .int .i64 0, .string ByteArray.empty], none, true⟩ := rfl
@[simp] theorem T_137 : T 137 = some ⟨.struct #[⟨ "Left", 134, 0, false, "", "", 0⟩, ⟨ "Op", 3, 5, false, "", "", 48⟩, ⟨ "Right", 134, 6, false, "", "", 56⟩], 11, 104, .agg [.int .i64 0, .int .i64 0, .int .i64 0, .int .i64 0, .str ByteArray.empty, .int .i64 0, .int .i64 0, .int .i64 0, .int .i64 0, .int .i64 0, .str ByteArray.empty], .agg #[.int .i64 0, .int .i64 0, .int .i64 0, .int .i64 0, .string ByteArray.empty, .int .i64 0, .int .i64 0, .int .i64 0, .int .i64 0, .int .i64 0, .string ByteArray.empty], none, true⟩ := rfl
@[simp] theorem T_138 : T 138 = some ⟨.func #[9] #[4] false, 1, 8, .nilFn, .nilFunc, none, false⟩ := rfl
@[simp] theorem T_139 : T 139 = some ⟨.func #[22, 9] #[4] false, 1, 8, .nilFn, .nilFunc, none, false⟩ := rfl
@[simp] theorem T_140 : T 140 = some ⟨.func #[95] #[4] false, 1, 8, .nilFn, .nilFunc, none, false⟩ := rfl
@[simp] theorem T_141 : T 141 = some ⟨.func #[3, 31] #[89, 50] false, 1, 8, .nilFn, .nilFunc, none, false⟩ := rfl
@[simp] theorem T_142 : T 142 = some ⟨.func #[3, 43] #[4] false, 1, 8, .nilFn, .nilFunc, none, false⟩ := rfl
@[simp] theorem T_143 : T 143 = some ⟨.func #[3, 38] #[4] false, 1, 8, .nilFn, .nilFunc, none, false⟩ := rfl
@[simp] theorem T_144 : T 144 = some ⟨.func #[3, 40] #[4] false, 1, 8, .nilFn, .nilFunc, none, false⟩ := rfl
@[simp] theorem T_145 : T 145 = some ⟨.func #[25, 38] #[47, 50] false, 1, 8, .nilFn, .nilFunc, none, false⟩ := rfl
@[simp] theorem T_146 : T 146 = some ⟨.func #[25, 40] #[47, 50] false, 1, 8, .nilFn, .nilFunc, none, false⟩ := rfl
@[simp] theorem T_147 : T 147 = some ⟨.func #[25, 43] #[47, 50] false, 1, 8, .nilFn, .nilFunc, none, false⟩ := rfl
@[simp] theorem T_148 : T 148 = some ⟨.map 149 4, 1, 8, .nilM, .map none, none, false⟩ := rfl
@[simp] theorem T_149 : T 149 = some ⟨.array 3 2, 3, 24, .agg [.int .i64 0, .int .i64 0, .int .i64 0], .agg #[.int .i64 0, .int .i64 0, .int .i64 0], some (.arr 3), true⟩ := rfl
@[simp] theorem T_150 : T 150 = some ⟨.func #[46] #[149] false, 1, 8, .nilFn, .nilFunc, none, false⟩ := rfl
@[simp] theorem T_151 : T 151 = some ⟨.func #[47] #[46] true, 1, 8, .nilFn, .nilFunc, none, false⟩ := rfl
@[simp] theorem T_152 : T 152 = some ⟨.func #[47, 119] #[] false, 1, 8, .nilFn, .nilFunc, none, false⟩ := rfl
@[simp] theorem T_153 : T 153 = some ⟨.func #[47, 65] #[47] false, 1, 8, .nilFn, .nilFunc, none, false⟩ := rfl
@[simp] theorem T_154 : T 154 = some ⟨.func #[22] #[4] false, 1, 8, .nilFn, .nilFunc, none, false⟩ := rfl
@[simp] theorem T_155 : T 155 = some ⟨.func #[25, 31] #[47, 50] false, 1, 8, .nilFn, .nilFunc, none, false⟩ := rfl
@[simp] theorem T_156 : T 156 = some ⟨.func #[47, 100] #[3] false, 1, 8, .nilFn, .nilFunc, none, false⟩ := rfl
@[simp] theorem T_157 : T 157 = some ⟨.int .u64, 1, 8, .int .u64 0, .int .u64 0, some (.int .u64), false⟩ := rfl
@[simp] theorem T_158 : T 158 = some ⟨.func #[2, 2] #[4] false, 1, 8, .nilFn, .nilFunc, none, false⟩ := rfl
@[simp] theorem T_159 : T 159 = some ⟨.func #[46, 3] #[] false, 1, 8, .nilFn, .nilFunc, none, false⟩ := rfl
@[simp] theorem T_160 : T 160 = some ⟨.func #[3, 111] #[38] false, 1, 8, .nilFn, .nilFunc, none, false⟩ := rfl
@[simp] theorem T_161 : T 161 = some ⟨.func #[3, 113] #[40] false, 1, 8, .nilFn, .nilFunc, none, false⟩ := rfl
@[simp] theorem T_163 : T 163 = some ⟨.func #[3, 116] #[43, 4] false, 1, 8, .nilFn, .nilFunc, none, false⟩ := rfl
@[simp] theorem T_164 : T 164 = some ⟨.slice 31, 1, 24, .nilS, .slice none 0 0, none, false⟩ := rfl
@[simp] theorem T_165 : T 165 = some ⟨.func #[3, 166] #[164] false, 1, 8, .nilFn, .nilFunc, none, false⟩ := rfl
@[simp] theorem T_166 : T 166 = some ⟨.slice 109, 1, 24, .nilS, .slice none 0 0, none, false⟩ := rfl
@[simp] theorem T_167 : T 167 = some ⟨.func #[2, 2] #[3] false, 1, 8, .nilFn, .nilFunc, none, false⟩ := rfl
@[simp] theorem T_168 : T 168 = some ⟨.func #[97] #[97] false, 1, 8, .nilFn, .nilFunc, none, false⟩ := rfl
@[simp] theorem T_169 : T 169 = some ⟨.func #[46, 125] #[3] false, 1, 8, .nilFn, .nilFunc, none, false⟩ := rfl
@[simp] theorem T_170 : T 170 = some ⟨.func #[22, 9] #[3] false, 1, 8, .nilFn, .nilFunc, none, false⟩ := rfl
@[simp] theorem T_171 : T 171 = some ⟨.func #[95, 172] #[4] false, 1, 8, .nilFn, .nilFunc, none, false⟩ := rfl
@[simp] theorem T_172 : T 172 = some ⟨.func #[132] #[4] false, 1, 8, .nilFn, .nilFunc, none, false⟩ := rfl
@[simp] theorem T_173 : T 173 = some ⟨.func #[3, 164] #[50] false, 1, 8, .nilFn, .nilFunc, none, false⟩ := rfl
@[simp] theorem T_174 : T 174 = some ⟨.func #[29] #[33] false, 1, 8, .nilFn, .nilFunc, none, false⟩ := rfl
@[simp] theorem T_175 : T 175 = some ⟨.func #[3, 3] #[137] false, 1, 8, .nilFn, .nilFunc, none, false⟩ := rfl
@[simp] theorem T_176 : T 176 = some ⟨.func #[41, 178] #[4] false, 1, 8, .nilFn, .nilFunc, none, false⟩ := rfl
@[simp] theorem T_177 : T 177 = some ⟨.func #[3, 3, 134] #[4] false, 1, 8, .nilFn, .nilFunc, none, false⟩ := rfl
@[simp] theorem T_178 : T 178 = some ⟨.func #[137] #[4] false, 1, 8, .nilFn, .nilFunc, none, false⟩ := rfl
@[simp] theorem T_179 : T 179 = some ⟨.func #[36, 182] #[4] false, 1, 8, .nilFn, .nilFunc, none, false⟩ := rfl
@[simp] theorem T_180 : T 180 = some ⟨.struct #[⟨ "Any", 4, 0, false, "", "", 0⟩, ⟨ "Value", 132, 1, false, "", "", 8⟩], 4, 40, .agg [.bool false, .int .i64 0, .int .i64 0, .str ByteArray.empty], .agg #[.bool false, .int .i64 0, .int .i64 0, .string ByteArray.empty], none, true⟩ := rfl
@[simp] theorem T_181 : T 181 = some ⟨.struct #[⟨ "Any", 4, 0, false, "", "", 0⟩, ⟨ "Value", 132, 1, false, "", "", 8⟩], 4, 40, .agg [.bool false, .int .i64 0, .int .i64 0, .str ByteArray.empty], .agg #[.bool false, .int .i64 0, .int .i64 0, .string ByteArray.empty], none, true⟩ := rfl
@[simp] theorem T_182 : T 182 = some ⟨.func #[181] #[4] false, 1, 8, .nilFn, .nilFunc, none, false⟩ := rfl
@[simp] theorem T_183 : T 183 = some ⟨.func #[3, 33] #[4] false, 1, 8, .nilFn, .nilFunc, none, false⟩ := rfl
@[simp] theorem T_184 : T 184 = some ⟨.func #[38, 95] #[4] false, 1, 8, .nilFn, .nilFunc, none, false⟩ := rfl
@[simp] theorem T_185 : T 185 = some ⟨.func #[181, 132] #[4] false, 1, 8, .nilFn, .nilFunc, none, false⟩ := rfl
@[simp] theorem T_186 : T 186 = some ⟨.func #[38] #[181] false, 1, 8, .nilFn, .nilFunc, none, false⟩ := rfl
@[simp] theorem T_187 : T 187 = some ⟨.func #[38, 95, 95] #[4] false, 1, 8, .nilFn, .nilFunc, none, false⟩ := rfl
@[simp] theorem T_188 : T 188 = some ⟨.func #[25, 189] #[50] false, 1, 8, .nilFn, .nilFunc, none, false⟩ := rfl
@[simp] theorem T_189 : T 189 = some ⟨.func #[3] #[4] false, 1, 8, .nilFn, .nilFunc, none, false⟩ := rfl
@[simp] theorem T_190 : T 190 = some ⟨.func #[97, 97, 40] #[3] false, 1, 8, .nilFn, .nilFunc, none, false⟩ := rfl
@[simp] theorem T_191 : T 191 = some ⟨.func #[25, 43] #[50] false, 1, 8, .nilFn, .nilFunc, none, false⟩ := rfl
@[simp] theorem T_192 : T 192 = some ⟨.func #[25, 43, 23, 194] #[4] false, 1, 8, .nilFn, .nilFunc, none, false⟩ := rfl
@[simp] theorem T_193 : T 193 = some ⟨.func #[46] #[] false, 1, 8, .nilFn, .nilFunc, none, false⟩ := rfl
@[simp] theorem T_194 : T 194 = some ⟨.func #[23] #[4] false, 1, 8, .nilFn, .nilFunc, none, false⟩ := rfl
@[simp] theorem T_195 : T 195 = some ⟨.func #[46, 3] #[46] false, 1, 8, .nilFn, .nilFunc, none, false⟩ := rfl
@[simp] theorem T_196 : T 196 = some ⟨.func #[47, 3, 3, 3, 119] #[] false, 1, 8, .nilFn, .nilFunc, none, false⟩ := rfl
@[simp] theorem T_197 : T 197 = some ⟨.func #[157] #[3] false, 1, 8, .nilFn, .nilFunc, none, false⟩ := rfl
@[simp] theorem T_198 : T 198 = some ⟨.func #[5] #[4] false, 1, 8, .nilFn, .nilFunc, none, false⟩ := rfl
@[simp] theorem T_199 : T 199 = some ⟨.func #[29, 29] #[4] false, 1, 8, .nilFn, .nilFunc, none, false⟩ := rfl
@[simp] theorem T_200 : T 200 = some ⟨.func #[3] #[29] false, 1, 8, .nilFn, .nilFunc, none, false⟩ := rfl
@[simp] theorem T_201 : T 201 = some ⟨.func #[97, 97, 29] #[4] false, 1, 8, .nilFn, .nilFunc, none, false⟩ := rfl
@[simp] theorem T_202 : T 202 = some ⟨.func #[25, 40] #[50] false, 1, 8, .nilFn, .nilFunc, none, false⟩ := rfl
@[simp] theorem T_203 : T 203 = some ⟨.slice 23, 1, 24, .nilS, .slice none 0 0, none, false⟩ := rfl
@[simp] theorem T_204 : T 204 = some ⟨.func #[25, 3] #[203] false, 1, 8, .nilFn, .nilFunc, none, false⟩ := rfl
@[simp] theorem T_205 : T 205 = some ⟨.func #[43, 23] #[4] false, 1, 8, .nilFn, .nilFunc, none, false⟩ := rfl
@[simp] theorem T_206 : T 206 = some ⟨.func #[47, 46] #[47] false, 1, 8, .nilFn, .nilFunc, none, false⟩ := rfl
@[simp] theorem T_207 : T 207 = some ⟨.func #[23] #[46] false, 1, 8, .nilFn, .nilFunc, none, false⟩ := rfl
@[simp] theorem T_208 : T 208 = some ⟨.func #[3, 56] #[33] false, 1, 8, .nilFn, .nilFunc, none, false⟩ := rfl
@[simp] theorem T_209 : T 209 = some ⟨.struct #[⟨ "Var", 5, 0, false, "", "", 0⟩, ⟨ "Code", 5, 1, false, "", "", 1⟩], 2, 2, .agg [.int .u8 0, .int .u8 0], .agg #[.int .u8 0, .int .u8 0], none, true⟩ := rfl
@[simp] theorem T_210 : T 210 = some ⟨.struct #[⟨ "Var", 5, 0, false, "", "", 0⟩, ⟨ "Code", 5, 1, false, "", "", 1⟩], 2, 2, .agg [.int .u8 0, .int .u8 0], .agg #[.int .u8 0, .int .u8 0], none, true⟩ := rfl
@[simp] theorem T_211 : T 211 = some ⟨.struct #[⟨ "Left", 210, 0, false, "", "", 0⟩, ⟨ "Op", 5, 2, false, "", "", 2⟩, ⟨ "Right", 210, 3, false, "", "", 3⟩], 5, 5, .agg [.int .u8 0, .int .u8 0, .int .u8 0, .int .u8 0, .int .u8 0], .agg #[.int .u8 0, .int .u8 0, .int .u8 0, .int .u8 0, .int .u8 0], none, true⟩ := rfl
@[simp] theorem T_212 : T 212 = some ⟨.struct #[⟨ "Left", 210, 0, false, "", "", 0⟩, ⟨ "Op", 5, 2, false, "", "", 2⟩, ⟨ "Right", 210, 3, false, "", "", 3⟩], 5, 5, .agg [.int .u8 0, .int .u8 0, .int .u8 0, .int .u8 0, .int .u8 0], .agg #[.int .u8 0, .int .u8 0, .int .u8 0, .int .u8 0, .int .u8 0], none, true⟩ := rfl
@[simp] theorem T_213 : T 213 = some ⟨.func #[3, 3, 210] #[134] false, 1, 8, .nilFn, .nilFunc, none, false⟩ := rfl
@[simp] theorem T_214 : T 214 = some ⟨.func #[95, 172] #[3] false, 1, 8, .nilFn, .nilFunc, none, false⟩ := rfl
@[simp] theorem T_215 : T 215 = some ⟨.func #[28] #[3] false, 1, 8, .nilFn, .nilFunc, none, false⟩ := rfl
@[simp] theorem T_216 : T 216 = some ⟨.func #[3, 3] #[134] false, 1, 8, .nilFn, .nilFunc, none, false⟩ := rfl
@[simp] theorem T_217 : T 217 = some ⟨.func #[41, 178] #[3] false, 1, 8, .nilFn, .nilFunc, none, false⟩ := rfl
@[simp] theorem T_218 : T 218 = some ⟨.func #[36, 182] #[3] false, 1, 8, .nilFn, .nilFunc, none, false⟩ := rfl
@[simp] theorem T_219 : T 219 = some ⟨.func #[33, 189] #[4] false, 1, 8, .nilFn, .nilFunc, none, false⟩ := rfl
@[simp] theorem T_220 : T 220 = some ⟨.func #[97, 97, 33] #[3] false, 1, 8, .nilFn, .nilFunc, none, false⟩ := rfl
@[simp] theorem T_221 : T 221 = some ⟨.func #[23, 41] #[4] false, 1, 8, .nilFn, .nilFunc, none, false⟩ := rfl
@[simp] theorem T_222 : T 222 = some ⟨.func #[23, 223] #[4] false, 1, 8, .nilFn, .nilFunc, none, false⟩ := rfl
@[simp] theorem T_223 : T 223 = some ⟨.func #[97] #[4] false, 1, 8, .nilFn, .nilFunc, none, false⟩ := rfl
@[simp] theorem T_224 : T 224 = some ⟨.func #[23] #[23] false, 1, 8, .nilFn, .nilFunc, none, false⟩ := rfl
@[simp] theorem T_225 : T 225 = some ⟨.func #[46, 3, 3, 3] #[] false, 1, 8, .nilFn, .nilFunc, none, false⟩ := rfl
@[simp] theorem T_226 : T 226 = some ⟨.func #[47, 3, 3, 119] #[] false, 1, 8, .nilFn, .nilFunc, none, false⟩ := rfl
@[simp] theorem T_227 : T 227 = some ⟨.int .i64, 1, 8, .int .i64 0, .int .i64 0, some (.int .i64), false⟩ := rfl
@[simp] theorem T_229 : T 229 = some ⟨.func #[47, 3, 3, 119] #[3, 227] false, 1, 8, .nilFn, .nilFunc, none, false⟩ := rfl
@[simp] theorem T_230 : T 230 = some ⟨.func #[47, 3, 3, 119] #[4] false, 1, 8, .nilFn, .nilFunc, none, false⟩ := rfl
@[simp] theorem T_231 : T 231 = some ⟨.func #[47, 3, 3, 3, 119] #[3] false, 1, 8, .nilFn, .nilFunc, none, false⟩ := rfl
@[simp] theorem T_232 : T 232 = some ⟨.func #[47, 3, 3, 3, 119] #[3, 4] false, 1, 8, .nilFn, .nilFunc, none, false⟩ := rfl
@[simp] theorem T_233 : T 233 = some ⟨.func #[234] #[3] false, 1, 8, .nilFn, .nilFunc, none, false⟩ := rfl
@[simp] theorem T_234 : T 234 = some ⟨.int .u64, 1, 8, .int .u64 0, .int .u64 0, some (.int .u64), false⟩ := rfl
@[simp] theorem T_235 : T 235 = some ⟨.func #[95, 95] #[4] false, 1, 8, .nilFn, .nilFunc, none, false⟩ := rfl
@[simp] theorem T_236 : T 236 = some ⟨.func #[97, 29] #[95] false, 1, 8, .nilFn, .nilFunc, none, false⟩ := rfl
@[simp] theorem T_237 : T 237 = some ⟨.func #[132, 181] #[4] false, 1, 8, .nilFn, .nilFunc, none, false⟩ := rfl
@[simp] theorem T_238 : T 238 = some ⟨.func #[132, 132] #[3] false, 1, 8, .nilFn, .nilFunc, none, false⟩ := rfl
@[simp] theorem T_239 : T 239 = some ⟨.func #[137, 23] #[4] false, 1, 8, .nilFn, .nilFunc, none, false⟩ := rfl
@[simp] theorem T_240 : T 240 = some ⟨.array 32 5, 32, 32, .agg [.int .u8 0, .int .u8 0, .int .u8 0, .int .u8 0, .int .u8 0, .int .u8 0, .int .u8 0, .int .u8 0, .int .u8 0, .int .u8 0, .int .u8 0, .int .u8 0, .int .u8 0, .int .u8 0, .int .u8 0, .int .u8 0, .int .u8 0, .int .u8 0, .int .u8 0, .int .u8 0, .int .u8 0, .int .u8 0, .int .u8 0, .int .u8 0, .int .u8 0, .int .u8 0, .int .u8 0, .int .u8 0, .int .u8 0, .int .u8 0, .int .u8 0, .int .u8 0], .agg #[.int .u8 0, .int .u8 0, .int .u8 0, .int .u8 0, .int .u8 0, .int .u8 0, .int .u8 0, .int .u8 0, .int .u8 0, .int .u8 0, .int .u8 0, .int .u8 0, .int .u8 0, .int .u8 0, .int .u8 0, .int .u8 0, .int .u8 0, .int .u8 0, .int .u8 0, .int .u8 0, .int .u8 0, .int .u8 0, .int .u8 0, .int .u8 0, .int .u8 0, .int .u8 0, .int .u8 0, .int .u8 0, .int .u8 0, .int .u8 0, .int .u8 0, .int .u8 0], none, true⟩ := rfl
@[simp] theorem T_241 : T 241 = some ⟨.func #[33, 189] #[3] false, 1, 8, .nilFn, .nilFunc, none, false⟩ := rfl
@[simp] theorem T_242 : T 242 = some ⟨.func #[23, 134] #[132] false, 1, 8, .nilFn, .nilFunc, none, false⟩ := rfl
@[simp] theorem T_243 : T 243 = some ⟨.func #[23, 223] #[3] false, 1, 8, .nilFn, .nilFunc, none, false⟩ := rfl
@[simp] theorem T_244 : T 244 = some ⟨.func #[46, 3, 3] #[] false, 1, 8, .nilFn, .nilFunc, none, false⟩ := rfl
@[simp] theorem T_245 : T 245 = some ⟨.func #[46, 3, 3] #[3, 227] false, 1, 8, .nilFn, .nilFunc, none, false⟩ := rfl
@[simp] theorem T_246 : T 246 = some ⟨.func #[46, 3, 3] #[4] false, 1, 8, .nilFn, .nilFunc, none, false⟩ := rfl
@[simp] theorem T_247 : T 247 = some ⟨.func #[46, 3, 3, 3] #[3] false, 1, 8, .nilFn, .nilFunc, none, false⟩ := rfl
@[simp] theorem T_248 : T 248 = some ⟨.func #[46, 3, 3, 3] #[3, 4] false, 1, 8, .nilFn, .nilFunc, none, false⟩ := rfl
@[simp] theorem T_249 : T 249 = some ⟨.int .u64, 1, 8, .int .u64 0, .int .u64 0, some (.int .u64), false⟩ := rfl
@[simp] theorem T_250 : T 250 = some ⟨.func #[3] #[157] false, 1, 8, .nilFn, .nilFunc, none, false⟩ := rfl
@[simp] theorem T_251 : T 251 = some ⟨.func #[] #[234] false, 1, 8, .nilFn, .nilFunc, none, false⟩ := rfl
@[simp] theorem T_252 : T 252 = some ⟨.func #[47, 3, 253, 119] #[3] false, 1, 8, .nilFn, .nilFunc, none, false⟩ := rfl
@[simp] theorem T_253 : T 253 = some ⟨.pointer 3, 1, 8, .nilP, .pointer none, none, false⟩ := rfl
@[simp] theorem T_254 : T 254 = some ⟨.func #[47, 3, 3, 3, 253, 119] #[3] false, 1, 8, .nilFn, .nilFunc, none, false⟩ := rfl
@[simp] theorem T_255 : T 255 = some ⟨.func #[95, 95] #[3] false, 1, 8, .nilFn, .nilFunc, none, false⟩ := rfl
@[simp] theorem T_256 : T 256 = some ⟨.func #[9, 9] #[3] false, 1, 8, .nilFn, .nilFunc, none, false⟩ := rfl
@[simp] theorem T_257 : T 257 = some ⟨.func #[134, 23] #[132] false, 1, 8, .nilFn, .nilFunc, none, false⟩ := rfl
@[simp] theorem T_258 : T 258 = some ⟨.func #[33] #[3] true, 1, 8, .nilFn, .nilFunc, none, false⟩ := rfl
@[simp] theorem T_259 : T 259 = some ⟨.func #[3, 3] #[3] false, 1, 8, .nilFn, .nilFunc, none, false⟩ := rfl
@[simp] theorem T_260 : T 260 = some ⟨.func #[46, 3, 253] #[3] false, 1, 8, .nilFn, .nilFunc, none, false⟩ := rfl
@[simp] theorem T_261 : T 261 = some ⟨.func #[46, 3, 3, 3, 253] #[3] false, 1, 8, .nilFn, .nilFunc, none, false⟩ := rfl
@[simp] theorem T_262 : T 262 = some ⟨.pointer 249, 1, 8, .nilP, .pointer none, none, false⟩ := rfl
@[simp] theorem T_264 : T 264 = some ⟨.func #[47, 3, 3, 253, 119] #[3, 3] false, 1, 8, .nilFn, .nilFunc, none, false⟩ := rfl
@[simp] theorem T_265 : T 265 = some ⟨.func #[46, 3, 3, 253] #[3, 3] false, 1, 8, .nilFn, .nilFunc, none, false⟩ := rfl
@[simp] theorem T_266 : T 266 = some ⟨.func #[] #[9] false, 1, 8, .nilFn, .nilFunc, none, false⟩ := rfl
@[simp] theorem T_267 : T 267 = some ⟨.struct #[⟨ "_interface", 17, 0, false, "", "runtime", 0⟩, ⟨ "concrete", 17, 1, false, "", "runtime", 8⟩, ⟨ "asserted", 17, 2, false, "", "runtime", 16⟩, ⟨ "missingMethod", 9, 3, false, "", "runtime", 24⟩], 4, 40, .agg [.nilP, .nilP, .nilP, .str ByteArray.empty], .agg #[.pointer none, .pointer none, .pointer none, .string ByteArray.empty], none, false⟩ := rfl
@[simp] theorem T_268 : T 268 = some ⟨.struct #[⟨ "_interface", 17, 0, false, "", "runtime", 0⟩, ⟨ "concrete", 17, 1, false, "", "runtime", 8⟩, ⟨ "asserted", 17, 2, false, "", "runtime", 16⟩, ⟨ "missingMethod", 9, 3, false, "", "runtime", 24⟩], 4, 40, .agg [.nilP, .nilP, .nilP, .str ByteArray.empty], .agg #[.pointer none, .pointer none, .pointer none, .string ByteArray.empty], none, false⟩ := rfl
@[simp] theorem T_269 : T 269 = some ⟨.array 0 16, 0, 0, .agg [], .agg #[], none, true⟩ := rfl
@[simp] theorem T_270 : T 270 = some ⟨.struct #[⟨ "_", 269, 0, false, "", "runtime", 0⟩], 0, 0, .agg [], .agg #[], none, false⟩ := rfl
@[simp] theorem T_271 : T 271 = some ⟨.struct #[⟨ "_", 269, 0, false, "", "runtime", 0⟩], 0, 0, .agg [], .agg #[], none, false⟩ := rfl
@[simp] theorem T_272 : T 272 = some ⟨.func #[] #[3] false, 1, 8, .nilFn, .nilFunc, none, false⟩ := rfl
@[simp] theorem T_273 : T 273 = some ⟨.int .u8, 1, 1, .int .u8 0, .int .u8 0, some (.int .u8), false⟩ := rfl
@[simp] theorem T_274 : T 274 = some ⟨.int .u8, 1, 1, .int .u8 0, .int .u8 0, some (.int .u8), false⟩ := rfl
@[simp] theorem T_275 : T 275 = some ⟨.func #[281, 281] #[4] false, 1, 8, .nilFn, .nilFunc, none, false⟩ := rfl
@[simp] theorem T_276 : T 276 = some ⟨.pointer 5, 1, 8, .nilP, .pointer none, none, false⟩ := rfl
@[simp] theorem T_277 : T 277 = some ⟨.int .i32, 1, 4, .int .i32 0, .int .i32 0, some (.int .i32), false⟩ := rfl
@[simp] theorem T_278 : T 278 = some ⟨.int .i32, 1, 4, .int .i32 0, .int .i32 0, some (.int .i32), false⟩ := rfl
@[simp] theorem T_279 : T 279 = some ⟨.struct #[⟨ "Size_", 12, 0, false, "", "", 0⟩, ⟨ "PtrBytes", 12, 1, false, "", "", 8⟩, ⟨ "Hash", 28, 2, false, "", "", 16⟩, ⟨ "TFlag", 273, 3, false, "", "", 20⟩, ⟨ "Align_", 5, 4, false, "", "", 21⟩, ⟨ "FieldAlign_", 5, 5, false, "", "", 22⟩, ⟨ "Kind_", 274, 6, false, "", "", 23⟩, ⟨ "Equal", 275, 7, false, "", "", 24⟩, ⟨ "GCData", 276, 8, false, "", "", 32⟩, ⟨ "Str", 277, 9, false, "", "", 40⟩, ⟨ "PtrToThis", 278, 10, false, "", "", 44⟩], 11, 48, .agg [.int .u64 0, .int .u64 0, .int .u32 0, .int .u8 0, .int .u8 0, .int .u8 0, .int .u8 0, .nilFn, .nilP, .int .i32 0, .int .i32 0], .agg #[.int .u64 0, .int .u64 0, .int .u32 0, .int .u8 0, .int .u8 0, .int .u8 0, .int .u8 0, .nilFunc, .pointer none, .int .i32 0, .int .i32 0], none, false⟩ := rfl
@[simp] theorem T_280 : T 280 = some ⟨.struct #[⟨ "Size_", 12, 0, false, "", "", 0⟩, ⟨ "PtrBytes", 12, 1, false, "", "", 8⟩, ⟨ "Hash", 28, 2, false, "", "", 16⟩, ⟨ "TFlag", 273, 3, false, "", "", 20⟩, ⟨ "Align_", 5, 4, false, "", "", 21⟩, ⟨ "FieldAlign_", 5, 5, false, "", "", 22⟩, ⟨ "Kind_", 274, 6, false, "", "", 23⟩, ⟨ "Equal", 275, 7, false, "", "", 24⟩, ⟨ "GCData", 276, 8, false, "", "", 32⟩, ⟨ "Str", 277, 9, false, "", "", 40⟩, ⟨ "PtrToThis", 278, 10, false, "", "", 44⟩], 11, 48, .agg [.int .u64 0, .int .u64 0, .int .u32 0, .int .u8 0, .int .u8 0, .int .u8 0, .int .u8 0, .nilFn, .nilP, .int .i32 0, .int .i32 0], .agg #[.int .u64 0, .int .u64 0, .int .u32 0, .int .u8 0, .int .u8 0, .int .u8 0, .int .u8 0, .nilFunc, .pointer none, .int .i32 0, .int .i32 0], none, false⟩ := rfl
theorem tr1 : TRow Tryz.prog 1 (some ti1) := fun i h => by cases h; exact ⟨Tryz.underlying1, by kernel_rfl, by kernel_rfl, by kernel_rfl, (fun _ h => by cases h), (fun h => by cases h)⟩
theorem tr2 : TRow Tryz.prog 2 (some ti2) := fun i h => by cases h; exact ⟨Tryz.underlying2, by kernel_rfl, by kernel_rfl, by kernel_rfl, (fun _ h => by cases h; exact int_law Tryz.underlying2), (fun h => by cases h)⟩
theorem tr3 : TRow Tryz.prog 3 (some ti3) := fun i h => by cases h; exact ⟨Tryz.underlying3, by kernel_rfl, by kernel_rfl, by kernel_rfl, (fun _ h => by cases h; exact int_law Tryz.underlying3), (fun h => by cases h)⟩
theorem tr4 : TRow Tryz.prog 4 (some ti4) := fun i h => by cases h; exact ⟨Tryz.underlying4, by kernel_rfl, by kernel_rfl, by kernel_rfl, (fun _ h => by cases h; exact bool_law Tryz.underlying4), (fun h => by cases h)⟩
theorem tr5 : TRow Tryz.prog 5 (some ti5) := fun i h => by cases h; exact ⟨Tryz.underlying5, by kernel_rfl, by kernel_rfl, by kernel_rfl, (fun _ h => by cases h; exact int_law Tryz.underlying5), (fun h => by cases h)⟩
theorem tr6 : TRow Tryz.prog 6 (some ti6) := fun i h => by cases h; exact ⟨Tryz.underlying6, by kernel_rfl, by kernel_rfl, by kernel_rfl, (fun _ h => by cases h; exact int_law Tryz.underlying6), (fun h => by cases h)⟩
theorem tr7 : TRow Tryz.prog 7 (some ti7) := fun i h => by cases h; exact ⟨Tryz.underlying7, by kernel_rfl, by kernel_rfl, by kernel_rfl, (fun _ h => by cases h), (fun _ => ⟨by kernel_rfl, by kernel_rfl⟩)⟩
theorem tr8 : TRow Tryz.prog 8 (some ti8) := fun i h => by cases h; exact ⟨Tryz.underlying8, by kernel_rfl, by kernel_rfl, by kernel_rfl, (fun _ h => by cases h), (fun _ => ⟨by kernel_rfl, by kernel_rfl⟩)⟩
theorem tr9 : TRow Tryz.prog 9 (some ti9) := fun i h => by cases h; exact ⟨Tryz.underlying9, by kernel_rfl, by kernel_rfl, by kernel_rfl, (fun _ h => by cases h; exact str_law Tryz.underlying9), (fun h => by cases h)⟩
theorem tr10 : TRow Tryz.prog 10 (some ti10) := fun i h => by cases h; exact ⟨Tryz.underlying10, by kernel_rfl, by kernel_rfl, by kernel_rfl, (fun _ h => by cases h; exact str_law Tryz.underlying10), (fun h => by cases h)⟩
theorem tr11 : TRow Tryz.prog 11 (some ti11) := fun i h => by cases h; exact ⟨Tryz.underlying11, by kernel_rfl, by kernel_rfl, by kernel_rfl, (fun _ h => by cases h; exact str_law Tryz.underlying11), (fun h => by cases h)⟩
theorem tr12 : TRow Tryz.prog 12 (some ti12) := fun i h => by cases h; exact ⟨Tryz.underlying12, by kernel_rfl, by kernel_rfl, by kernel_rfl, (fun _ h => by cases h; exact int_law Tryz.underlying12), (fun h => by cases h)⟩
theorem tr13 : TRow Tryz.prog 13 (some ti13) := fun i h => by cases h; exact ⟨Tryz.underlying13, by kernel_rfl, by kernel_rfl, by kernel_rfl, (fun _ h => by cases h), (fun h => by cases h)⟩
theorem tr14 : TRow Tryz.prog 14 (some ti14) := fun i h => by cases h; exact ⟨Tryz.underlying14, by kernel_rfl, by kernel_rfl, by kernel_rfl, (fun _ h => by cases h), (fun h => by cases h)⟩
theorem tr15 : TRow Tryz.prog 15 (some ti15) := fun i h => by cases h; exact ⟨Tryz.underlying15, by kernel_rfl, by kernel_rfl, by kernel_rfl, (fun _ h => by cases h), (fun h => by cases h)⟩
theorem tr16 : TRow Tryz.prog 16 (some ti16) := fun i h => by cases h; exact ⟨Tryz.underlying16, by kernel_rfl, by kernel_rfl, by kernel_rfl, (fun _ h => by cases h), (fun h => by cases h)⟩
theorem tr17 : TRow Tryz.prog 17 (some ti17) := fun i h => by cases h; exact ⟨Tryz.underlying17, by kernel_rfl, by kernel_rfl, by kernel_rfl, (fun _ h => by cases h), (fun h => by cases h)⟩
theorem tr18 : TRow Tryz.prog 18 (some ti18) := fun i h => by cases h; exact ⟨Tryz.underlying18, by kernel_rfl, by kernel_rfl, by kernel_rfl, (fun _ h => by cases h), (fun h => by cases h)⟩
theorem tr19 : TRow Tryz.prog 19 (some ti19) := fun i h => by cases h; exact ⟨Tryz.underlying19, by kernel_rfl, by kernel_rfl, by kernel_rfl, (fun _ h => by cases h), (fun h => by cases h)⟩
theorem tr21 : TRow Tryz.prog 21 (some ti21) := fun i h => by cases h; exact ⟨Tryz.underlying21, by kernel_rfl, by kernel_rfl, by kernel_rfl, (fun _ h => by cases h; exact int_law Tryz.underlying21), (fun h => by cases h)⟩
theorem tr22 : TRow Tryz.prog 22 (some ti22) := fun i h => by cases h; exact ⟨Tryz.underlying22, by kernel_rfl, by kernel_rfl, by kernel_rfl, (fun _ h => by cases h), (fun h => by cases h)⟩
theorem tr23 : TRow Tryz.prog 23 (some ti23) := fun i h => by cases h; exact ⟨Tryz.underlying23, by kernel_rfl, by kernel_rfl, by kernel_rfl, (fun _ h => by cases h), (fun h => by cases h)⟩
theorem tr24 : TRow Tryz.prog 24 (some ti24) := fun i h => by cases h; exact ⟨Tryz.underlying24, by kernel_rfl, by kernel_rfl, by kernel_rfl, (fun _ h => by cases h), (fun _ => ⟨by kernel_rfl, by kernel_rfl⟩)⟩
theorem tr25 : TRow Tryz.prog 25 (some ti25) := fun i h => by cases h; exact ⟨Tryz.underlying25, by kernel_rfl, by kernel_rfl, by kernel_rfl, (fun _ h => by cases h), (fun _ => ⟨by kernel_rfl, by kernel_rfl⟩)⟩
theorem tr26 : TRow Tryz.prog 26 (some ti26) := fun i h => by cases h; exact ⟨Tryz.underlying26, by kernel_rfl, by kernel_rfl, by kernel_rfl, (fun _ h => by cases h), (fun h => by cases h)⟩
theorem tr27 : TRow Tryz.prog 27 (some ti27) := fun i h => by cases h; exact ⟨Tryz.underlying27, by kernel_rfl, by kernel_rfl, by kernel_rfl, (fun _ h => by cases h), (fun h => by cases h)⟩
theorem tr28 : TRow Tryz.prog 28 (some ti28) := fun i h => by cases h; exact ⟨Tryz.underlying28, by kernel_rfl, by kernel_rfl, by kernel_rfl, (fun _ h => by cases h; exact int_law Tryz.underlying28), (fun h => by cases h)⟩
theorem tr29 : TRow Tryz.prog 29 (some ti29) := fun i h => by cases h; exact ⟨Tryz.underlying29, by kernel_rfl, by kernel_rfl, by kernel_rfl, (fun _ h => by cases h; exact int_law Tryz.underlying29), (fun h => by cases h)⟩
theorem tr30 : TRow Tryz.prog 30 (some ti30) := fun i h => by cases h; exact ⟨Tryz.underlying30, by kernel_rfl, by kernel_rfl, by kernel_rfl, (fun _ h => by cases h), (fun _ => ⟨by kernel_rfl, by kernel_rfl⟩)⟩
theorem tr31 : TRow Tryz.prog 31 (some ti31) := fun i h => by cases h; exact ⟨Tryz.underlying31, by kernel_rfl, by kernel_rfl, by kernel_rfl, (fun _ h => by cases h), (fun _ => ⟨by kernel_rfl, by kernel_rfl⟩)⟩
theorem tr32 : TRow Tryz.prog 32 (some ti32) := fun i h => by cases h; exact ⟨Tryz.underlying32, by kernel_rfl, by kernel_rfl, by kernel_rfl, (fun _ h => by cases h), (fun _ => ⟨by kernel_rfl, by kernel_rfl⟩)⟩
theorem tr33 : TRow Tryz.prog 33 (some ti33) := fun i h => by cases h; exact ⟨Tryz.underlying33, by kernel_rfl, by kernel_rfl, by kernel_rfl, (fun _ h => by cases h), (fun h => by cases h)⟩
theorem tr34 : TRow Tryz.prog 34 (some ti34) := fun i h => by cases h; exact ⟨Tryz.underlying34, by kernel_rfl, by kernel_rfl, by kernel_rfl, (fun _ h => by cases h), (fun _ => ⟨by kernel_rfl, by kernel_rfl⟩)⟩
theorem tr35 : TRow Tryz.prog 35 (some ti35) := fun i h => by cases h; exact ⟨Tryz.underlying35, by kernel_rfl, by kernel_rfl, by kernel_rfl, (fun _ h => by cases h), (fun _ => ⟨by kernel_rfl, by kernel_rfl⟩)⟩
theorem tr36 : TRow Tryz.prog 36 (some ti36) := fun i h => by cases h; exact ⟨Tryz.underlying36, by kernel_rfl, by kernel_rfl, by kernel_rfl, (fun _ h => by cases h), (fun h => by cases h)⟩
theorem tr37 : TRow Tryz.prog 37 (some ti37) := fun i h => by cases h; exact ⟨Tryz.underlying37, by kernel_rfl, by kernel_rfl, by kernel_rfl, (fun _ h => by cases h), (fun _ => ⟨by kernel_rfl, by kernel_rfl⟩)⟩
theorem tr38 : TRow Tryz.prog 38 (some ti38) := fun i h => by cases h; exact ⟨Tryz.underlying38, by kernel_rfl, by kernel_rfl, by kernel_rfl, (fun _ h => by cases h), (fun _ => ⟨by kernel_rfl, by kernel_rfl⟩)⟩
theorem tr39 : TRow Tryz.prog 39 (some ti39) := fun i h => by cases h; exact ⟨Tryz.underlying39, by kernel_rfl, by kernel_rfl, by kernel_rfl, (fun _ h => by cases h), (fun _ => ⟨by kernel_rfl, by kernel_rfl⟩)⟩
theorem tr40 : TRow Tryz.prog 40 (some ti40) := fun i h => by cases h; exact ⟨Tryz.underlying40, by kernel_rfl, by kernel_rfl, by kernel_rfl, (fun _ h => by cases h), (fun _ => ⟨by kernel_rfl, by kernel_rfl⟩)⟩
theorem tr41 : TRow Tryz.prog 41 (some ti41) := fun i h => by cases h; exact ⟨Tryz.underlying41, by kernel_rfl, by kernel_rfl, by kernel_rfl, (fun _ h => by cases h), (fun h => by cases h)⟩
theorem tr42 : TRow Tryz.prog 42 (some ti42) := fun i h => by cases h; exact ⟨Tryz.underlying42, by kernel_rfl, by kernel_rfl, by kernel_rfl, (fun _ h => by cases h), (fun _ => ⟨by kernel_rfl, by kernel_rfl⟩)⟩
theorem tr43 : TRow Tryz.prog 43 (some ti43) := fun i h => by cases h; exact ⟨Tryz.underlying43, by kernel_rfl, by kernel_rfl, by kernel_rfl, (fun _ h => by cases h), (fun _ => ⟨by kernel_rfl, by kernel_rfl⟩)⟩
theorem tr44 : TRow Tryz.prog 44 (some ti44) := fun i h => by cases h; exact ⟨Tryz.underlying44, by kernel_rfl, by kernel_rfl, by kernel_rfl, (fun _ h => by cases h), (fun _ => ⟨by kernel_rfl, by kernel_rfl⟩)⟩
theorem tr45 : TRow Tryz.prog 45 (some ti45) := fun i h => by cases h; exact ⟨Tryz.underlying45, by kernel_rfl, by kernel_rfl, by kernel_rfl, (fun _ h => by cases h), (fun _ => ⟨by kernel_rfl, by kernel_rfl⟩)⟩
theorem tr46 : TRow Tryz.prog 46 (some ti46) := fun i h => by cases h; exact ⟨Tryz.underlying46, by kernel_rfl, by kernel_rfl, by kernel_rfl, (fun _ h => by cases h), (fun h => by cases h)⟩
theorem tr47 : TRow Tryz.prog 47 (some ti47) := fun i h => by cases h; exact ⟨Tryz.underlying47, by kernel_rfl, by kernel_rfl, by kernel_rfl, (fun _ h => by cases h), (fun h => by cases h)⟩
theorem tr48 : TRow Tryz.prog 48 (some ti48) := fun i h => by cases h; exact ⟨Tryz.underlying48, by kernel_rfl, by kernel_rfl, by kernel_rfl, (fun _ h => by cases h), (fun _ => ⟨by kernel_rfl, by kernel_rfl⟩)⟩
theorem tr49 : TRow Tryz.prog 49 (some ti49) := fun i h => by cases h; exact ⟨Tryz.underlying49, by kernel_rfl, by kernel_rfl, by kernel_rfl, (fun _ h => by cases h), (fun _ => ⟨by kernel_rfl, by kernel_rfl⟩)⟩
theorem tr50 : TRow Tryz.prog 50 (some ti50) := fun i h => by cases h; exact ⟨Tryz.underlying50, by kernel_rfl, by kernel_rfl, by kernel_rfl, (fun _ h => by cases h; exact int_law Tryz.underlying50), (fun h => by cases h)⟩
theorem tr52 : TRow Tryz.prog 52 (some ti52) := fun i h => by cases h; exact ⟨Tryz.underlying52, by kernel_rfl, by kernel_rfl, by kernel_rfl, (fun _ h => by cases h), (fun h => by cases h)⟩
theorem tr53 : TRow Tryz.prog 53 (some ti53) := fun i h => by cases h; exact ⟨Tryz.underlying53, by kernel_rfl, by kernel_rfl, by kernel_rfl, (fun _ h => by cases h), (fun h => by cases h)⟩
theorem tr54 : TRow Tryz.prog 54 (some ti54) := fun i h => by cases h; exact ⟨Tryz.underlying54, by kernel_rfl, by kernel_rfl, by kernel_rfl, (fun _ h => by cases h), (fun h => by cases h)⟩
theorem tr55 : TRow Tryz.prog 55 (some ti55) := fun i h => by cases h; exact ⟨Tryz.underlying55, by kernel_rfl, by kernel_rfl, by kernel_rfl, (fun _ h => by cases h), (fun h => by cases h)⟩
theorem tr56 : TRow Tryz.prog 56 (some ti56) := fun i h => by cases h; exact ⟨Tryz.underlying56, by kernel_rfl, by kernel_rfl, by kernel_rfl, (fun _ h => by cases h), (fun h => by cases h)⟩
theorem tr57 : TRow Tryz.prog 57 (some ti57) := fun i h => by cases h; exact ⟨Tryz.underlying57, by kernel_rfl, by kernel_rfl, by kernel_rfl, (fun _ h => by cases h), (fun _ => ⟨by kernel_rfl, by kernel_rfl⟩)⟩
theorem tr58 : TRow Tryz.prog 58 (some ti58) := fun i h => by cases h; exact ⟨Tryz.underlying58, by kernel_rfl, by kernel_rfl, by kernel_rfl, (fun _ h => by cases h), (fun _ => ⟨by kernel_rfl, by kernel_rfl⟩)⟩
theorem tr60 : TRow Tryz.prog 60 (some ti60) := fun i h => by cases h; exact ⟨Tryz.underlying60, by kernel_rfl, by kernel_rfl, by kernel_rfl, (fun _ h => by cases h), (fun h => by cases h)⟩
theorem tr61 : TRow Tryz.prog 61 (some ti61) := fun i h => by cases h; exact ⟨Tryz.underlying61, by kernel_rfl, by kernel_rfl, by kernel_rfl, (fun _ h => by cases h), (fun h => by cases h)⟩
theorem tr62 : TRow Tryz.prog 62 (some ti62) := fun i h => by cases h; exact ⟨Tryz.underlying62, by kernel_rfl, by kernel_rfl, by kernel_rfl, (fun _ h => by cases h), (fun h => by cases h)⟩
theorem tr63 : TRow Tryz.prog 63 (some ti63) := fun i h => by cases h; exact ⟨Tryz.underlying63, by kernel_rfl, by kernel_rfl, by kernel_rfl, (fun _ h => by cases h), (fun h => by cases h)⟩
theorem tr64 : TRow Tryz.prog 64 (some ti64) := fun i h => by cases h; exact ⟨Tryz.underlying64, by kernel_rfl, by kernel_rfl, by kernel_rfl, (fun _ h => by cases h), (fun h => by cases h)⟩
theorem tr65 : TRow Tryz.prog 65 (some ti65) := fun i h => by cases h; exact ⟨Tryz.underlying65, by kernel_rfl, by kernel_rfl, by kernel_rfl, (fun _ h => by cases h), (fun h => by cases h)⟩
theorem tr66 : TRow Tryz.prog 66 (some ti66) := fun i h => by cases h; exact ⟨Tryz.underlying66, by kernel_rfl, by kernel_rfl, by kernel_rfl, (fun _ h => by cases h), (fun h => by cases h)⟩
theorem tr67 : TRow Tryz.prog 67 (some ti67) := fun i h => by cases h; exact ⟨Tryz.underlying67, by kernel_rfl, by kernel_rfl, by kernel_rfl, (fun _ h => by cases h), (fun h => by cases h)⟩
theorem tr68 : TRow Tryz.prog 68 (some ti68) := fun i h => by cases h; exact ⟨Tryz.underlying68, by kernel_rfl, by kernel_rfl, by kernel_rfl, (fun _ h => by cases h), (fun h => by cases h)⟩
theorem tr69 : TRow Tryz.prog 69 (some ti69) := fun i h => by cases h; exact ⟨Tryz.underlying69, by kernel_rfl, by kernel_rfl, by kernel_rfl, (fun _ h => by cases h), (fun _ => ⟨by kernel_rfl, by kernel_rfl⟩)⟩
theorem tr70 : TRow Tryz.prog 70 (some ti70) := fun i h => by cases h; exact ⟨Tryz.underlying70, by kernel_rfl, by kernel_rfl, by kernel_rfl, (fun _ h => by cases h), (fun _ => ⟨by kernel_rfl, by kernel_rfl⟩)⟩
theorem tr71 : TRow Tryz.prog 71 (some ti71) := fun i h => by cases h; exact ⟨Tryz.underlying71, by kernel_rfl, by kernel_rfl, by kernel_rfl, (fun _ h => by cases h), (fun h => by cases h)⟩
theorem tr73 : TRow Tryz.prog 73 (some ti73) := fun i h => by cases h; exact ⟨Tryz.underlying73, by kernel_rfl, by kernel_rfl, by kernel_rfl, (fun _ h => by cases h), (fun h => by cases h)⟩
theorem tr75 : TRow Tryz.prog 75 (some ti75) := fun i h => by cases h; exact ⟨Tryz.underlying75, by kernel_rfl, by kernel_rfl, by kernel_rfl, (fun _ h => by cases h), (fun h => by cases h)⟩
theorem tr76 : TRow Tryz.prog 76 (some ti76) := fun i h => by cases h; exact ⟨Tryz.underlying76, by kernel_rfl, by kernel_rfl, by kernel_rfl, (fun _ h => by cases h), (fun h => by cases h)⟩
theorem tr77 : TRow Tryz.prog 77 (some ti77) := fun i h => by cases h; exact ⟨Tryz.underlying77, by kernel_rfl, by kernel_rfl, by kernel_rfl, (fun _ h => by cases h), (fun h => by cases h)⟩
theorem tr78 : TRow Tryz.prog 78 (some ti78) := fun i h => by cases h; exact ⟨Tryz.underlying78, by kernel_rfl, by kernel_rfl, by kernel_rfl, (fun _ h => by cases h), (fun h => by cases h)⟩
theorem tr79 : TRow Tryz.prog 79 (some ti79) := fun i h => by cases h; exact ⟨Tryz.underlying79, by kernel_rfl, by kernel_rfl, by kernel_rfl, (fun _ h => by cases h), (fun h => by cases h)⟩
theorem tr80 : TRow Tryz.prog 80 (some ti80) := fun i h => by cases h; exact ⟨Tryz.underlying80, by kernel_rfl, by kernel_rfl, by kernel_rfl, (fun _ h => by cases h), (fun h => by cases h)⟩
theorem tr81 : TRow Tryz.prog 81 (some ti81) := fun i h => by cases h; exact ⟨Tryz.underlying81, by kernel_rfl, by kernel_rfl, by kernel_rfl, (fun _ h => by cases h), (fun h => by cases h)⟩
theorem tr82 : TRow Tryz.prog 82 (some ti82) := fun i h => by cases h; exact ⟨Tryz.underlying82, by kernel_rfl, by kernel_rfl, by kernel_rfl, (fun _ h => by cases h), (fun h => by cases h)⟩
theorem tr83 : TRow Tryz.prog 83 (some ti83) := fun i h => by cases h; exact ⟨Tryz.underlying83, by kernel_rfl, by kernel_rfl, by kernel_rfl, (fun _ h => by cases h), (fun h => by cases h)⟩
theorem tr84 : TRow Tryz.prog 84 (some ti84) := fun i h => by cases h; exact ⟨Tryz.underlying84, by kernel_rfl, by kernel_rfl, by kernel_rfl, (fun _ h => by cases h), (fun h => by cases h)⟩
theorem tr85 : TRow Tryz.prog 85 (some ti85) := fun i h => by cases h; exact ⟨Tryz.underlying85, by kernel_rfl, by kernel_rfl, by kernel_rfl, (fun _ h => by cases h), (fun h => by cases h)⟩
theorem tr87 : TRow Tryz.prog 87 (some ti87) := fun i h => by cases h; exact ⟨Tryz.underlying87, by kernel_rfl, by kernel_rfl, by kernel_rfl, (fun _ h => by cases h), (fun h => by cases h)⟩
theorem tr88 : TRow Tryz.prog 88 (some ti88) := fun i h => by cases h; exact ⟨Tryz.underlying88, by kernel_rfl, by kernel_rfl, by kernel_rfl, (fun _ h => by cases h), (fun h => by cases h)⟩
theorem tr89 : TRow Tryz.prog 89 (some ti89) := fun i h => by cases h; exact ⟨Tryz.underlying89, by kernel_rfl, by kernel_rfl, by kernel_rfl, (fun _ h => by cases h), (fun h => by cases h)⟩
theorem tr91 : TRow Tryz.prog 91 (some ti91) := fun i h => by cases h; exact ⟨Tryz.underlying91, by kernel_rfl, by kernel_rfl, by kernel_rfl, (fun _ h => by cases h), (fun h => by cases h)⟩
theorem tr93 : TRow Tryz.prog 93 (some ti93) := fun i h => by cases h; exact ⟨Tryz.underlying93, by kernel_rfl, by kernel_rfl, by kernel_rfl, (fun _ h => by cases h), (fun h => by cases h)⟩
theorem tr94 : TRow Tryz.prog 94 (some ti94) := fun i h => by cases h; exact ⟨Tryz.underlying94, by kernel_rfl, by kernel_rfl, by kernel_rfl, (fun _ h => by cases h), (fun h => by cases h)⟩
theorem tr95 : TRow Tryz.prog 95 (some ti95) := fun i h => by cases h; exact ⟨Tryz.underlying95, by kernel_rfl, by kernel_rfl, by kernel_rfl, (fun _ h => by cases h), (fun h => by cases h)⟩
theorem tr96 : TRow Tryz.prog 96 (some ti96) := fun i h => by cases h; exact ⟨Tryz.underlying96, by kernel_rfl, by kernel_rfl, by kernel_rfl, (fun _ h => by cases h), (fun _ => ⟨by kernel_rfl, by kernel_rfl⟩)⟩
theorem tr97 : TRow Tryz.prog 97 (some ti97) := fun i h => by cases h; exact ⟨Tryz.underlying97, by kernel_rfl, by kernel_rfl, by kernel_rfl, (fun _ h => by cases h), (fun _ => ⟨by kernel_rfl, by kernel_rfl⟩)⟩
theorem tr98 : TRow Tryz.prog 98 (some ti98) := fun i h => by cases h; exact ⟨Tryz.underlying98, by kernel_rfl, by kernel_rfl, by kernel_rfl, (fun _ h => by cases h), (fun h => by cases h)⟩
theorem tr99 : TRow Tryz.prog 99 (some ti99) := fun i h => by cases h; exact ⟨Tryz.underlying99, by kernel_rfl, by kernel_rfl, by kernel_rfl, (fun _ h => by cases h), (fun h => by cases h)⟩
theorem tr100 : TRow Tryz.prog 100 (some ti100) := fun i h => by cases h; exact ⟨Tryz.underlying100, by kernel_rfl, by kernel_rfl, by kernel_rfl, (fun _ h => by cases h), (fun h => by cases h)⟩
theorem tr101 : TRow Tryz.prog 101 (some ti101) := fun i h => by cases h; exact ⟨Tryz.underlying101, by kernel_rfl, by kernel_rfl, by kernel_rfl, (fun _ h => by cases h), (fun h => by cases h)⟩
theorem tr103 : TRow Tryz.prog 103 (some ti103) := fun i h => by cases h; exact ⟨Tryz.underlying103, by kernel_rfl, by kernel_rfl, by kernel_rfl, (fun _ h => by cases h), (fun h => by cases h)⟩
theorem tr104 : TRow Tryz.prog 104 (some ti104) := fun i h => by cases h; exact ⟨Tryz.underlying104, by kernel_rfl, by kernel_rfl, by kernel_rfl, (fun _ h => by cases h), (fun h => by cases h)⟩
theorem tr105 : TRow Tryz.prog 105 (some ti105) := fun i h => by cases h; exact ⟨Tryz.underlying105, by kernel_rfl, by kernel_rfl, by kernel_rfl, (fun _ h => by cases h), (fun h => by cases h)⟩
theorem tr107 : TRow Tryz.prog 107 (some ti107) := fun i h => by cases h; exact ⟨Tryz.underlying107, by kernel_rfl, by kernel_rfl, by kernel_rfl, (fun _ h => by cases h), (fun h => by cases h)⟩
theorem tr108 : TRow Tryz.prog 108 (some ti108) := fun i h => by cases h; exact ⟨Tryz.underlying108, by kernel_rfl, by kernel_rfl, by kernel_rfl, (fun _ h => by cases h), (fun _ => ⟨by kernel_rfl, by kernel_rfl⟩)⟩
theorem tr109 : TRow Tryz.prog 109 (some ti109) := fun i h => by cases h; exact ⟨Tryz.underlying109, by kernel_rfl, by kernel_rfl, by kernel_rfl, (fun _ h => by cases h), (fun _ => ⟨by kernel_rfl, by kernel_rfl⟩)⟩
theorem tr110 : TRow Tryz.prog 110 (some ti110) := fun i h => by cases h; exact ⟨Tryz.underlying110, by kernel_rfl, by kernel_rfl, by kernel_rfl, (fun _ h => by cases h), (fun _ => ⟨by kernel_rfl, by kernel_rfl⟩)⟩
theorem tr111 : TRow Tryz.prog 111 (some ti111) := fun i h => by cases h; exact ⟨Tryz.underlying111, by kernel_rfl, by kernel_rfl, by kernel_rfl, (fun _ h => by cases h), (fun _ => ⟨by kernel_rfl, by kernel_rfl⟩)⟩
theorem tr112 : TRow Tryz.prog 112 (some ti112) := fun i h => by cases h; exact ⟨Tryz.underlying112, by kernel_rfl, by kernel_rfl, by kernel_rfl, (fun _ h => by cases h), (fun _ => ⟨by kernel_rfl, by kernel_rfl⟩)⟩
theorem tr113 : TRow Tryz.prog 113 (some ti113) := fun i h => by cases h; exact ⟨Tryz.underlying113, by kernel_rfl, by kernel_rfl, by kernel_rfl, (fun _ h => by cases h), (fun _ => ⟨by kernel_rfl, by kernel_rfl⟩)⟩
theorem tr114 : TRow Tryz.prog 114 (some ti114) := fun i h => by cases h; exact ⟨Tryz.underlying114, by kernel_rfl, by kernel_rfl, by kernel_rfl, (fun _ h => by cases h), (fun h => by cases h)⟩
theorem tr115 : TRow Tryz.prog 115 (some ti115) := fun i h => by cases h; exact ⟨Tryz.underlying115, by kernel_rfl, by kernel_rfl, by kernel_rfl, (fun _ h => by cases h), (fun _ => ⟨by kernel_rfl, by kernel_rfl⟩)⟩
theorem tr116 : TRow Tryz.prog 116 (some ti116) := fun i h => by cases h; exact ⟨Tryz.underlying116, by kernel_rfl, by kernel_rfl, by kernel_rfl, (fun _ h => by cases h), (fun _ => ⟨by kernel_rfl, by kernel_rfl⟩)⟩
theorem tr117 : TRow Tryz.prog 117 (some ti117) := fun i h => by cases h; exact ⟨Tryz.underlying117, by kernel_rfl, by kernel_rfl, by kernel_rfl, (fun _ h => by cases h), (fun _ => ⟨by kernel_rfl, by kernel_rfl⟩)⟩
theorem tr118 : TRow Tryz.prog 118 (some ti118) := fun i h => by cases h; exact ⟨Tryz.underlying118, by kernel_rfl, by kernel_rfl, by kernel_rfl, (fun _ h => by cases h), (fun _ => ⟨by kernel_rfl, by kernel_rfl⟩)⟩
theorem tr119 : TRow Tryz.prog 119 (some ti119) := fun i h => by cases h; exact ⟨Tryz.underlying119, by kernel_rfl, by kernel_rfl, by kernel_rfl, (fun _ h => by cases h), (fun h => by cases h)⟩
theorem tr120 : TRow Tryz.prog 120 (some ti120) := fun i h => by cases h; exact ⟨Tryz.underlying120, by kernel_rfl, by kernel_rfl, by kernel_rfl, (fun _ h => by cases h), (fun h => by cases h)⟩
theorem tr121 : TRow Tryz.prog 121 (some ti121) := fun i h => by cases h; exact ⟨Tryz.underlying121, by kernel_rfl, by kernel_rfl, by kernel_rfl, (fun _ h => by cases h), (fun h => by cases h)⟩
theorem tr122 : TRow Tryz.prog 122 (some ti122) := fun i h => by cases h; exact ⟨Tryz.underlying122, by kernel_rfl, by kernel_rfl, by kernel_rfl, (fun _ h => by cases h), (fun h => by cases h)⟩
theorem tr123 : TRow Tryz.prog 123 (some ti123) := fun i h => by cases h; exact ⟨Tryz.underlying123, by kernel_rfl, by kernel_rfl, by kernel_rfl, (fun _ h => by cases h), (fun h => by cases h)⟩
theorem tr124 : TRow Tryz.prog 124 (some ti124) := fun i h => by cases h; exact ⟨Tryz.underlying124, by kernel_rfl, by kernel_rfl, by kernel_rfl, (fun _ h => by cases h), (fun h => by cases h)⟩
theorem tr125 : TRow Tryz.prog 125 (some ti125) := fun i h => by cases h; exact ⟨Tryz.underlying125, by kernel_rfl, by kernel_rfl, by kernel_rfl, (fun _ h => by cases h), (fun h => by cases h)⟩
theorem tr126 : TRow Tryz.prog 126 (some ti126) := fun i h => by cases h; exact ⟨Tryz.underlying126, by kernel_rfl, by kernel_rfl, by kernel_rfl, (fun _ h => by cases h), (fun h => by cases h)⟩
theorem tr127 : TRow Tryz.prog 127 (some ti127) := fun i h => by cases h; exact ⟨Tryz.underlying127, by kernel_rfl, by kernel_rfl, by kernel_rfl, (fun _ h => by cases h), (fun h => by cases h)⟩
theorem tr128 : TRow Tryz.prog 128 (some ti128) := fun i h => by cases h; exact ⟨Tryz.underlying128, by kernel_rfl, by kernel_rfl, by kernel_rfl, (fun _ h => by cases h), (fun h => by cases h)⟩
theorem tr129 : TRow Tryz.prog 129 (some ti129) := fun i h => by cases h; exact ⟨Tryz.underlying129, by kernel_rfl, by kernel_rfl, by kernel_rfl, (fun _ h => by cases h), (fun h => by cases h)⟩
theorem tr130 : TRow Tryz.prog 130 (some ti130) := fun i h => by cases h; exact ⟨Tryz.underlying130, by kernel_rfl, by kernel_rfl, by kernel_rfl, (fun _ h => by cases h), (fun h => by cases h)⟩
theorem tr131 : TRow Tryz.prog 131 (some ti131) := fun i h => by cases h; exact ⟨Tryz.underlying131, by kernel_rfl, by kernel_rfl, by kernel_rfl, (fun _ h => by cases h), (fun _ => ⟨by kernel_rfl, by kernel_rfl⟩)⟩
theorem tr132 : TRow Tryz.prog 132 (some ti132) := fun i h => by cases h; exact ⟨Tryz.underlying132, by kernel_rfl, by kernel_rfl, by kernel_rfl, (fun _ h => by cases h), (fun _ => ⟨by kernel_rfl, by kernel_rfl⟩)⟩
theorem tr133 : TRow Tryz.prog 133 (some ti133) := fun i h => by cases h; exact ⟨Tryz.underlying133, by kernel_rfl, by kernel_rfl, by kernel_rfl, (fun _ h => by cases h), (fun _ => ⟨by kernel_rfl, by kernel_rfl⟩)⟩
theorem tr134 : TRow Tryz.prog 134 (some ti134) := fun i h => by cases h; exact ⟨Tryz.underlying134, by kernel_rfl, by kernel_rfl, by kernel_rfl, (fun _ h => by cases h), (fun _ => ⟨by kernel_rfl, by kernel_rfl⟩)⟩
theorem tr135 : TRow Tryz.prog 135 (some ti135) := fun i h => by cases h; exact ⟨Tryz.underlying135, by kernel_rfl, by kernel_rfl, by kernel_rfl, (fun _ h => by cases h), (fun h => by cases h)⟩
theorem tr136 : TRow Tryz.prog 136 (some ti136) := fun i h => by cases h; exact ⟨Tryz.underlying136, by kernel_rfl, by kernel_rfl, by kernel_rfl, (fun _ h => by cases h), (fun _ => ⟨by kernel_rfl, by kernel_rfl⟩)⟩
theorem tr137 : TRow Tryz.prog 137 (some ti137) := fun i h => by cases h; exact ⟨Tryz.underlying137, by kernel_rfl, by kernel_rfl, by kernel_rfl, (fun _ h => by cases h), (fun _ => ⟨by kernel_rfl, by kernel_rfl⟩)⟩
theorem tr138 : TRow Tryz.prog 138 (some ti138) := fun i h => by cases h; exact ⟨Tryz.underlying138, by kernel_rfl, by kernel_rfl, by kernel_rfl, (fun _ h => by cases h), (fun h => by cases h)⟩
theorem tr139 : TRow Tryz.prog 139 (some ti139) := fun i h => by cases h; exact ⟨Tryz.underlying139, by kernel_rfl, by kernel_rfl, by kernel_rfl, (fun _ h => by cases h), (fun h => by cases h)⟩
theorem tr140 : TRow Tryz.prog 140 (some ti140) := fun i h => by cases h; exact ⟨Tryz.underlying140, by kernel_rfl, by kernel_rfl, by kernel_rfl, (fun _ h => by cases h), (fun h => by cases h)⟩
theorem tr141 : TRow Tryz.prog 141 (some ti141) := fun i h => by cases h; exact ⟨Tryz.underlying141, by kernel_rfl, by kernel_rfl, by kernel_rfl, (fun _ h => by cases h), (fun h => by cases h)⟩
theorem tr142 : TRow Tryz.prog 142 (some ti142) := fun i h => by cases h; exact ⟨Tryz.underlying142, by kernel_rfl, by kernel_rfl, by kernel_rfl, (fun _ h => by cases h), (fun h => by cases h)⟩
theorem tr143 : TRow Tryz.prog 143 (some ti143) := fun i h => by cases h; exact ⟨Tryz.underlying143, by kernel_rfl, by kernel_rfl, by kernel_rfl, (fun _ h => by cases h), (fun h => by cases h)⟩
theorem tr144 : TRow Tryz.prog 144 (some ti144) := fun i h => by cases h; exact ⟨Tryz.underlying144, by kernel_rfl, by kernel_rfl, by kernel_rfl, (fun _ h => by cases h), (fun h => by cases h)⟩
theorem tr145 : TRow Tryz.prog 145 (some ti145) := fun i h => by cases h; exact ⟨Tryz.underlying145, by kernel_rfl, by kernel_rfl, by kernel_rfl, (fun _ h => by cases h), (fun h => by cases h)⟩
theorem tr146 : TRow Tryz.prog 146 (some ti146) := fun i h => by cases h; exact ⟨Tryz.underlying146, by kernel_rfl, by kernel_rfl, by kernel_rfl, (fun _ h => by cases h), (fun h => by cases h)⟩
theorem tr147 : TRow Tryz.prog 147 (some ti147) := fun i h => by cases h; exact ⟨Tryz.underlying147, by kernel_rfl, by kernel_rfl, by kernel_rfl, (fun _ h => by cases h), (fun h => by cases h)⟩
theorem tr148 : TRow Tryz.prog 148 (some ti148) := fun i h => by cases h; exact ⟨Tryz.underlying148, by kernel_rfl, by kernel_rfl, by kernel_rfl, (fun _ h => by cases h), (fun h => by cases h)⟩
theorem tr149 : TRow Tryz.prog 149 (some ti149) := fun i h => by cases h; exact ⟨Tryz.underlying149, by kernel_rfl, by kernel_rfl, by kernel_rfl, (fun _ h => by cases h; exact arr_law Tryz.underlying149 Tryz.underlying2 (by kernel_rfl)), (fun _ => ⟨by kernel_rfl, by kernel_rfl⟩)⟩
theorem tr150 : TRow Tryz.prog 150 (some ti150) := fun i h => by cases h; exact ⟨Tryz.underlying150, by kernel_rfl, by kernel_rfl, by kernel_rfl, (fun _ h => by cases h), (fun h => by cases h)⟩
theorem tr151 : TRow Tryz.prog 151 (some ti151) := fun i h => by cases h; exact ⟨Tryz.underlying151, by kernel_rfl, by kernel_rfl, by kernel_rfl, (fun _ h => by cases h), (fun h => by cases h)⟩
theorem tr152 : TRow Tryz.prog 152 (some ti152) := fun i h => by cases h; exact ⟨Tryz.underlying152, by kernel_rfl, by kernel_rfl, by kernel_rfl, (fun _ h => by cases h), (fun h => by cases h)⟩
theorem tr153 : TRow Tryz.prog 153 (some ti153) := fun i h => by cases h; exact ⟨Tryz.underlying153, by kernel_rfl, by kernel_rfl, by kernel_rfl, (fun _ h => by cases h), (fun h => by cases h)⟩
theorem tr154 : TRow Tryz.prog 154 (some ti154) := fun i h => by cases h; exact ⟨Tryz.underlying154, by kernel_rfl, by kernel_rfl, by kernel_rfl, (fun _ h => by cases h), (fun h => by cases h)⟩
theorem tr155 : TRow Tryz.prog 155 (some ti155) := fun i h => by cases h; exact ⟨Tryz.underlying155, by kernel_rfl, by kernel_rfl, by kernel_rfl, (fun _ h => by cases h), (fun h => by cases h)⟩
theorem tr156 : TRow Tryz.prog 156 (some ti156) := fun i h => by cases h; exact ⟨Tryz.underlying156, by kernel_rfl, by kernel_rfl, by kernel_rfl, (fun _ h => by cases h), (fun h => by cases h)⟩
theorem tr157 : TRow Tryz.prog 157 (some ti157) := fun i h => by cases h; exact ⟨Tryz.underlying157, by kernel_rfl, by kernel_rfl, by kernel_rfl, (fun _ h => by cases h; exact int_law Tryz.underlying157), (fun h => by cases h)⟩
theorem tr158 : TRow Tryz.prog 158 (some ti158) := fun i h => by cases h; exact ⟨Tryz.underlying158, by kernel_rfl, by kernel_rfl, by kernel_rfl, (fun _ h => by cases h), (fun h => by cases h)⟩
theorem tr159 : TRow Tryz.prog 159 (some ti159) := fun i h => by cases h; exact ⟨Tryz.underlying159, by kernel_rfl, by kernel_rfl, by kernel_rfl, (fun _ h => by cases h), (fun h => by cases h)⟩
theorem tr160 : TRow Tryz.prog 160 (some ti160) := fun i h => by cases h; exact ⟨Tryz.underlying160, by kernel_rfl, by kernel_rfl, by kernel_rfl, (fun _ h => by cases h), (fun h => by cases h)⟩
theorem tr161 : TRow Tryz.prog 161 (some ti161) := fun i h => by cases h; exact ⟨Tryz.underlying161, by kernel_rfl, by kernel_rfl, by kernel_rfl, (fun _ h => by cases h), (fun h => by cases h)⟩
theorem tr163 : TRow Tryz.prog 163 (some ti163) := fun i h => by cases h; exact ⟨Tryz.underlying163, by kernel_rfl, by kernel_rfl, by kernel_rfl, (fun _ h => by cases h), (fun h => by cases h)⟩
theorem tr164 : TRow Tryz.prog 164 (some ti164) := fun i h => by cases h; exact ⟨Tryz.underlying164, by kernel_rfl, by kernel_rfl, by kernel_rfl, (fun _ h => by cases h), (fun h => by cases h)⟩
theorem tr165 : TRow Tryz.prog 165 (some ti165) := fun i h => by cases h; exact ⟨Tryz.underlying165, by kernel_rfl, by kernel_rfl, by kernel_rfl, (fun _ h => by cases h), (fun h => by cases h)⟩
theorem tr166 : TRow Tryz.prog 166 (some ti166) := fun i h => by cases h; exact ⟨Tryz.underlying166, by kernel_rfl, by kernel_rfl, by kernel_rfl, (fun _ h => by cases h), (fun h => by cases h)⟩
theorem tr167 : TRow Tryz.prog 167 (some ti167) := fun i h => by cases h; exact ⟨Tryz.underlying167, by kernel_rfl, by kernel_rfl, by kernel_rfl, (fun _ h => by cases h), (fun h => by cases h)⟩
theorem tr168 : TRow Tryz.prog 168 (some ti168) := fun i h => by cases h; exact ⟨Tryz.underlying168, by kernel_rfl, by kernel_rfl, by kernel_rfl, (fun _ h => by cases h), (fun h => by cases h)⟩
theorem tr169 : TRow Tryz.prog 169 (some ti169) := fun i h => by cases h; exact ⟨Tryz.underlying169, by kernel_rfl, by kernel_rfl, by kernel_rfl, (fun _ h => by cases h), (fun h => by cases h)⟩
theorem tr170 : TRow Tryz.prog 170 (some ti170) := fun i h => by cases h; exact ⟨Tryz.underlying170, by kernel_rfl, by kernel_rfl, by kernel_rfl, (fun _ h => by cases h), (fun h => by cases h)⟩
theorem tr171 : TRow Tryz.prog 171 (some ti171) := fun i h => by cases h; exact ⟨Tryz.underlying171, by kernel_rfl, by kernel_rfl, by kernel_rfl, (fun _ h => by cases h), (fun h => by cases h)⟩
theorem tr172 : TRow Tryz.prog 172 (some ti172) := fun i h => by cases h; exact ⟨Tryz.underlying172, by kernel_rfl, by kernel_rfl, by kernel_rfl, (fun _ h => by cases h), (fun h => by cases h)⟩
theorem tr173 : TRow Tryz.prog 173 (some ti173) := fun i h => by cases h; exact ⟨Tryz.underlying173, by kernel_rfl, by kernel_rfl, by kernel_rfl, (fun _ h => by cases h), (fun h => by cases h)⟩
theorem tr174 : TRow Tryz.prog 174 (some ti174) := fun i h => by cases h; exact ⟨Tryz.underlying174, by kernel_rfl, by kernel_rfl, by kernel_rfl, (fun _ h => by cases h), (fun h => by cases h)⟩
theorem tr175 : TRow Tryz.prog 175 (some ti175) := fun i h => by cases h; exact ⟨Tryz.underlying175, by kernel_rfl, by kernel_rfl, by kernel_rfl, (fun _ h => by cases h), (fun h => by cases h)⟩
theorem tr176 : TRow Tryz.prog 176 (some ti176) := fun i h => by cases h; exact ⟨Tryz.underlying176, by kernel_rfl, by kernel_rfl, by kernel_rfl, (fun _ h => by cases h), (fun h => by cases h)⟩
theorem tr177 : TRow Tryz.prog 177 (some ti177) := fun i h => by cases h; exact ⟨Tryz.underlying177, by kernel_rfl, by kernel_rfl, by kernel_rfl, (fun _ h => by cases h), (fun h => by cases h)⟩
theorem tr178 : TRow Tryz.prog 178 (some ti178) := fun i h => by cases h; exact ⟨Tryz.underlying178, by kernel_rfl, by kernel_rfl, by kernel_rfl, (fun _ h => by cases h), (fun h => by cases h)⟩
theorem tr179 : TRow Tryz.prog 179 (some ti179) := fun i h => by cases h; exact ⟨Tryz.underlying179, by kernel_rfl, by kernel_rfl, by kernel_rfl, (fun _ h => by cases h), (fun h => by cases h)⟩
theorem tr180 : TRow Tryz.prog 180 (some ti180) := fun i h => by cases h; exact ⟨Tryz.underlying180, by kernel_rfl, by kernel_rfl, by kernel_rfl, (fun _ h => by cases h), (fun _ => ⟨by kernel_rfl, by kernel_rfl⟩)⟩
theorem tr181 : TRow Tryz.prog 181 (some ti181) := fun i h => by cases h; exact ⟨Tryz.underlying181, by kernel_rfl, by kernel_rfl, by kernel_rfl, (fun _ h => by cases h), (fun _ => ⟨by kernel_rfl, by kernel_rfl⟩)⟩
theorem tr182 : TRow Tryz.prog 182 (some ti182) := fun i h => by cases h; exact ⟨Tryz.underlying182, by kernel_rfl, by kernel_rfl, by kernel_rfl, (fun _ h => by cases h), (fun h => by cases h)⟩
theorem tr183 : TRow Tryz.prog 183 (some ti183) := fun i h => by cases h; exact ⟨Tryz.underlying183, by kernel_rfl, by kernel_rfl, by kernel_rfl, (fun _ h => by cases h), (fun h => by cases h)⟩
theorem tr184 : TRow Tryz.prog 184 (some ti184) := fun i h => by cases h; exact ⟨Tryz.underlying184, by kernel_rfl, by kernel_rfl, by kernel_rfl, (fun _ h => by cases h), (fun h => by cases h)⟩
theorem tr185 : TRow Tryz.prog 185 (some ti185) := fun i h => by cases h; exact ⟨Tryz.underlying185, by kernel_rfl, by kernel_rfl, by kernel_rfl, (fun _ h => by cases h), (fun h => by cases h)⟩
theorem tr186 : TRow Tryz.prog 186 (some ti186) := fun i h => by cases h; exact ⟨Tryz.underlying186, by kernel_rfl, by kernel_rfl, by kernel_rfl, (fun _ h => by cases h), (fun h => by cases h)⟩
theorem tr187 : TRow Tryz.prog 187 (some ti187) := fun i h => by cases h; exact ⟨Tryz.underlying187, by kernel_rfl, by kernel_rfl, by kernel_rfl, (fun _ h => by cases h), (fun h => by cases h)⟩
theorem tr188 : TRow Tryz.prog 188 (some ti188) := fun i h => by cases h; exact ⟨Tryz.underlying188, by kernel_rfl, by kernel_rfl, by kernel_rfl, (fun _ h => by cases h), (fun h => by cases h)⟩
theorem tr189 : TRow Tryz.prog 189 (some ti189) := fun i h => by cases h; exact ⟨Tryz.underlying189, by kernel_rfl, by kernel_rfl, by kernel_rfl, (fun _ h => by cases h), (fun h => by cases h)⟩
theorem tr190 : TRow Tryz.prog 190 (some ti190) := fun i h => by cases h; exact ⟨Tryz.underlying190, by kernel_rfl, by kernel_rfl, by kernel_rfl, (fun _ h => by cases h), (fun h => by cases h)⟩
theorem tr191 : TRow Tryz.prog 191 (some ti191) := fun i h => by cases h; exact ⟨Tryz.underlying191, by kernel_rfl, by kernel_rfl, by kernel_rfl, (fun _ h => by cases h), (fun h => by cases h)⟩
theorem tr192 : TRow Tryz.prog 192 (some ti192) := fun i h => by cases h; exact ⟨Tryz.underlying192, by kernel_rfl, by kernel_rfl, by kernel_rfl, (fun _ h => by cases h), (fun h => by cases h)⟩
theorem tr193 : TRow Tryz.prog 193 (some ti193) := fun i h => by cases h; exact ⟨Tryz.underlying193, by kernel_rfl, by kernel_rfl, by kernel_rfl, (fun _ h => by cases h), (fun h => by cases h)⟩
theorem tr194 : TRow Tryz.prog 194 (some ti194) := fun i h => by cases h; exact ⟨Tryz.underlying194, by kernel_rfl, by kernel_rfl, by kernel_rfl, (fun _ h => by cases h), (fun h => by cases h)⟩
theorem tr195 : TRow Tryz.prog 195 (some ti195) := fun i h => by cases h; exact ⟨Tryz.underlying195, by kernel_rfl, by kernel_rfl, by kernel_rfl, (fun _ h => by cases h), (fun h => by cases h)⟩
theorem tr196 : TRow Tryz.prog 196 (some ti196) := fun i h => by cases h; exact ⟨Tryz.underlying196, by kernel_rfl, by kernel_rfl, by kernel_rfl, (fun _ h => by cases h), (fun h => by cases h)⟩
theorem tr197 : TRow Tryz.prog 197 (some ti197) := fun i h => by cases h; exact ⟨Tryz.underlying197, by kernel_rfl, by kernel_rfl, by kernel_rfl, (fun _ h => by cases h), (fun h => by cases h)⟩
theorem tr198 : TRow Tryz.prog 198 (some ti198) := fun i h => by cases h; exact ⟨Tryz.underlying198, by kernel_rfl, by kernel_rfl, by kernel_rfl, (fun _ h => by cases h), (fun h => by cases h)⟩
theorem tr199 : TRow Tryz.prog 199 (some ti199) := fun i h => by cases h; exact ⟨Tryz.underlying199, by kernel_rfl, by kernel_rfl, by kernel_rfl, (fun _ h => by cases h), (fun h => by cases h)⟩
theorem tr200 : TRow Tryz.prog 200 (some ti200) := fun i h => by cases h; exact ⟨Tryz.underlying200, by kernel_rfl, by kernel_rfl, by kernel_rfl, (fun _ h => by cases h), (fun h => by cases h)⟩
theorem tr201 : TRow Tryz.prog 201 (some ti201) := fun i h => by cases h; exact ⟨Tryz.underlying201, by kernel_rfl, by kernel_rfl, by kernel_rfl, (fun _ h => by cases h), (fun h => by cases h)⟩
theorem tr202 : TRow Tryz.prog 202 (some ti202) := fun i h => by cases h; exact ⟨Tryz.underlying202, by kernel_rfl, by kernel_rfl, by kernel_rfl, (fun _ h => by cases h), (fun h => by cases h)⟩
theorem tr203 : TRow Tryz.prog 203 (some ti203) := fun i h => by cases h; exact ⟨Tryz.underlying203, by kernel_rfl, by kernel_rfl, by kernel_rfl, (fun _ h => by cases h), (fun h => by cases h)⟩
theorem tr204 : TRow Tryz.prog 204 (some ti204) := fun i h => by cases h; exact ⟨Tryz.underlying204, by kernel_rfl, by kernel_rfl, by kernel_rfl, (fun _ h => by cases h), (fun h => by cases h)⟩
theorem tr205 : TRow Tryz.prog 205 (some ti205) := fun i h => by cases h; exact ⟨Tryz.underlying205, by kernel_rfl, by kernel_rfl, by kernel_rfl, (fun _ h => by cases h), (fun h => by cases h)⟩
theorem tr206 : TRow Tryz.prog 206 (some ti206) := fun i h => by cases h; exact ⟨Tryz.underlying206, by kernel_rfl, by kernel_rfl, by kernel_rfl, (fun _ h => by cases h), (fun h => by cases h)⟩
theorem tr207 : TRow Tryz.prog 207 (some ti207) := fun i h => by cases h; exact ⟨Tryz.underlying207, by kernel_rfl, by kernel_rfl, by kernel_rfl, (fun _ h => by cases h), (fun h => by cases h)⟩
theorem tr208 : TRow Tryz.prog 208 (some ti208) := fun i h => by cases h; exact ⟨Tryz.underlying208, by kernel_rfl, by kernel_rfl, by kernel_rfl, (fun _ h => by cases h), (fun h => by cases h)⟩
theorem tr209 : TRow Tryz.prog 209 (some ti209) := fun i h => by cases h; exact ⟨Tryz.underlying209, by kernel_rfl, by kernel_rfl, by kernel_rfl, (fun _ h => by cases h), (fun _ => ⟨by kernel_rfl, by kernel_rfl⟩)⟩
theorem tr210 : TRow Tryz.prog 210 (some ti210) := fun i h => by cases h; exact ⟨Tryz.underlying210, by kernel_rfl, by kernel_rfl, by kernel_rfl, (fun _ h => by cases h), (fun _ => ⟨by kernel_rfl, by kernel_rfl⟩)⟩
theorem tr211 : TRow Tryz.prog 211 (some ti211) := fun i h => by cases h; exact ⟨Tryz.underlying211, by kernel_rfl, by kernel_rfl, by kernel_rfl, (fun _ h => by cases h), (fun _ => ⟨by kernel_rfl, by kernel_rfl⟩)⟩
theorem tr212 : TRow Tryz.prog 212 (some ti212) := fun i h => by cases h; exact ⟨Tryz.underlying212, by kernel_rfl, by kernel_rfl, by kernel_rfl, (fun _ h => by cases h), (fun _ => ⟨by kernel_rfl, by kernel_rfl⟩)⟩
theorem tr213 : TRow Tryz.prog 213 (some ti213) := fun i h => by cases h; exact ⟨Tryz.underlying213, by kernel_rfl, by kernel_rfl, by kernel_rfl, (fun _ h => by cases h), (fun h => by cases h)⟩
theorem tr214 : TRow Tryz.prog 214 (some ti214) := fun i h => by cases h; exact ⟨Tryz.underlying214, by kernel_rfl, by kernel_rfl, by kernel_rfl, (fun _ h => by cases h), (fun h => by cases h)⟩
theorem tr215 : TRow Tryz.prog 215 (some ti215) := fun i h => by cases h; exact ⟨Tryz.underlying215, by kernel_rfl, by kernel_rfl, by kernel_rfl, (fun _ h => by cases h), (fun h => by cases h)⟩
theorem tr216 : TRow Tryz.prog 216 (some ti216) := fun i h => by cases h; exact ⟨Tryz.underlying216, by kernel_rfl, by kernel_rfl, by kernel_rfl, (fun _ h => by cases h), (fun h => by cases h)⟩
theorem tr217 : TRow Tryz.prog 217 (some ti217) := fun i h => by cases h; exact ⟨Tryz.underlying217, by kernel_rfl, by kernel_rfl, by kernel_rfl, (fun _ h => by cases h), (fun h => by cases h)⟩
theorem tr218 : TRow Tryz.prog 218 (some ti218) := fun i h => by cases h; exact ⟨Tryz.underlying218, by kernel_rfl, by kernel_rfl, by kernel_rfl, (fun _ h => by cases h), (fun h => by cases h)⟩
theorem tr219 : TRow Tryz.prog 219 (some ti219) := fun i h => by cases h; exact ⟨Tryz.underlying219, by kernel_rfl, by kernel_rfl, by kernel_rfl, (fun _ h => by cases h), (fun h => by cases h)⟩
theorem tr220 : TRow Tryz.prog 220 (some ti220) := fun i h => by cases h; exact ⟨Tryz.underlying220, by kernel_rfl, by kernel_rfl, by kernel_rfl, (fun _ h => by cases h), (fun h => by cases h)⟩
theorem tr221 : TRow Tryz.prog 221 (some ti221) := fun i h => by cases h; exact ⟨Tryz.underlying221, by kernel_rfl, by kernel_rfl, by kernel_rfl, (fun _ h => by cases h), (fun h => by cases h)⟩
theorem tr222 : TRow Tryz.prog 222 (some ti222) := fun i h => by cases h; exact ⟨Tryz.underlying222, by kernel_rfl, by kernel_rfl, by kernel_rfl, (fun _ h => by cases h), (fun h => by cases h)⟩
theorem tr223 : TRow Tryz.prog 223 (some ti223) := fun i h => by cases h; exact ⟨Tryz.underlying223, by kernel_rfl, by kernel_rfl, by kernel_rfl, (fun _ h => by cases h), (fun h => by cases h)⟩
theorem tr224 : TRow Tryz.prog 224 (some ti224) := fun i h => by cases h; exact ⟨Tryz.underlying224, by kernel_rfl, by kernel_rfl, by kernel_rfl, (fun _ h => by cases h), (fun h => by cases h)⟩
theorem tr225 : TRow Tryz.prog 225 (some ti225) := fun i h => by cases h; exact ⟨Tryz.underlying225, by kernel_rfl, by kernel_rfl, by kernel_rfl, (fun _ h => by cases h), (fun h => by cases h)⟩
theorem tr226 : TRow Tryz.prog 226 (some ti226) := fun i h => by cases h; exact ⟨Tryz.underlying226, by kernel_rfl, by kernel_rfl, by kernel_rfl, (fun _ h => by cases h), (fun h => by cases h)⟩
theorem tr227 : TRow Tryz.prog 227 (some ti227) := fun i h => by cases h; exact ⟨Tryz.underlying227, by kernel_rfl, by kernel_rfl, by kernel_rfl, (fun _ h => by cases h; exact int_law Tryz.underlying227), (fun h => by cases h)⟩
theorem tr229 : TRow Tryz.prog 229 (some ti229) := fun i h => by cases h; exact ⟨Tryz.underlying229, by kernel_rfl, by kernel_rfl, by kernel_rfl, (fun _ h => by cases h), (fun h => by cases h)⟩
theorem tr230 : TRow Tryz.prog 230 (some ti230) := fun i h => by cases h; exact ⟨Tryz.underlying230, by kernel_rfl, by kernel_rfl, by kernel_rfl, (fun _ h => by cases h), (fun h => by cases h)⟩
theorem tr231 : TRow Tryz.prog 231 (some ti231) := fun i h => by cases h; exact ⟨Tryz.underlying231, by kernel_rfl, by kernel_rfl, by kernel_rfl, (fun _ h => by cases h), (fun h => by cases h)⟩
theorem tr232 : TRow Tryz.prog 232 (some ti232) := fun i h => by cases h; exact ⟨Tryz.underlying232, by kernel_rfl, by kernel_rfl, by kernel_rfl, (fun _ h => by cases h), (fun h => by cases h)⟩
theorem tr233 : TRow Tryz.prog 233 (some ti233) := fun i h => by cases h; exact ⟨Tryz.underlying233, by kernel_rfl, by kernel_rfl, by kernel_rfl, (fun _ h => by cases h), (fun h => by cases h)⟩
theorem tr234 : TRow Tryz.prog 234 (some ti234) := fun i h => by cases h; exact ⟨Tryz.underlying234, by kernel_rfl, by kernel_rfl, by kernel_rfl, (fun _ h => by cases h; exact int_law Tryz.underlying234), (fun h => by cases h)⟩
theorem tr235 : TRow Tryz.prog 235 (some ti235) := fun i h => by cases h; exact ⟨Tryz.underlying235, by kernel_rfl, by kernel_rfl, by kernel_rfl, (fun _ h => by cases h), (fun h => by cases h)⟩
theorem tr236 : TRow Tryz.prog 236 (some ti236) := fun i h => by cases h; exact ⟨Tryz.underlying236, by kernel_rfl, by kernel_rfl, by kernel_rfl, (fun _ h => by cases h), (fun h => by cases h)⟩
theorem tr237 : TRow Tryz.prog 237 (some ti237) := fun i h => by cases h; exact ⟨Tryz.underlying237, by kernel_rfl, by kernel_rfl, by kernel_rfl, (fun _ h => by cases h), (fun h => by cases h)⟩
theorem tr238 : TRow Tryz.prog 238 (some ti238) := fun i h => by cases h; exact ⟨Tryz.underlying238, by kernel_rfl, by kernel_rfl, by kernel_rfl, (fun _ h => by cases h), (fun h => by cases h)⟩
theorem tr239 : TRow Tryz.prog 239 (some ti239) := fun i h => by cases h; exact ⟨Tryz.underlying239, by kernel_rfl, by kernel_rfl, by kernel_rfl, (fun _ h => by cases h), (fun h => by cases h)⟩
theorem tr240 : TRow Tryz.prog 240 (some ti240) := fun i h => by cases h; exact ⟨Tryz.underlying240, by kernel_rfl, by kernel_rfl, by kernel_rfl, (fun _ h => by cases h), (fun _ => ⟨by kernel_rfl, by kernel_rfl⟩)⟩
theorem tr241 : TRow Tryz.prog 241 (some ti241) := fun i h => by cases h; exact ⟨Tryz.underlying241, by kernel_rfl, by kernel_rfl, by kernel_rfl, (fun _ h => by cases h), (fun h => by cases h)⟩
theorem tr242 : TRow Tryz.prog 242 (some ti242) := fun i h => by cases h; exact ⟨Tryz.underlying242, by kernel_rfl, by kernel_rfl, by kernel_rfl, (fun _ h => by cases h), (fun h => by cases h)⟩
theorem tr243 : TRow Tryz.prog 243 (some ti243) := fun i h => by cases h; exact ⟨Tryz.underlying243, by kernel_rfl, by kernel_rfl, by kernel_rfl, (fun _ h => by cases h), (fun h => by cases h)⟩
theorem tr244 : TRow Tryz.prog 244 (some ti244) := fun i h => by cases h; exact ⟨Tryz.underlying244, by kernel_rfl, by kernel_rfl, by kernel_rfl, (fun _ h => by cases h), (fun h => by cases h)⟩
theorem tr245 : TRow Tryz.prog 245 (some ti245) := fun i h => by cases h; exact ⟨Tryz.underlying245, by kernel_rfl, by kernel_rfl, by kernel_rfl, (fun _ h => by cases h), (fun h => by cases h)⟩
theorem tr246 : TRow Tryz.prog 246 (some ti246) := fun i h => by cases h; exact ⟨Tryz.underlying246, by kernel_rfl, by kernel_rfl, by kernel_rfl, (fun _ h => by cases h), (fun h => by cases h)⟩
theorem tr247 : TRow Tryz.prog 247 (some ti247) := fun i h => by cases h; exact ⟨Tryz.underlying247, by kernel_rfl, by kernel_rfl, by kernel_rfl, (fun _ h => by cases h), (fun h => by cases h)⟩
theorem tr248 : TRow Tryz.prog 248 (some ti248) := fun i h => by cases h; exact ⟨Tryz.underlying248, by kernel_rfl, by kernel_rfl, by kernel_rfl, (fun _ h => by cases h), (fun h => by cases h)⟩
theorem tr249 : TRow Tryz.prog 249 (some ti249) := fun i h => by cases h; exact ⟨Tryz.underlying249, by kernel_rfl, by kernel_rfl, by kernel_rfl, (fun _ h => by cases h; exact int_law Tryz.underlying249), (fun h => by cases h)⟩
theorem tr250 : TRow Tryz.prog 250 (some ti250) := fun i h => by cases h; exact ⟨Tryz.underlying250, by kernel_rfl, by kernel_rfl, by kernel_rfl, (fun _ h => by cases h), (fun h => by cases h)⟩
theorem tr251 : TRow Tryz.prog 251 (some ti251) := fun i h => by cases h; exact ⟨Tryz.underlying251, by kernel_rfl, by kernel_rfl, by kernel_rfl, (fun _ h => by cases h), (fun h => by cases h)⟩
theorem tr252 : TRow Tryz.prog 252 (some ti252) := fun i h => by cases h; exact ⟨Tryz.underlying252, by kernel_rfl, by kernel_rfl, by kernel_rfl, (fun _ h => by cases h), (fun h => by cases h)⟩
theorem tr253 : TRow Tryz.prog 253 (some ti253) := fun i h => by cases h; exact ⟨Tryz.underlying253, by kernel_rfl, by kernel_rfl, by kernel_rfl, (fun _ h => by cases h), (fun h => by cases h)⟩
theorem tr254 : TRow Tryz.prog 254 (some ti254) := fun i h => by cases h; exact ⟨Tryz.underlying254, by kernel_rfl, by kernel_rfl, by kernel_rfl, (fun _ h => by cases h), (fun h => by cases h)⟩
theorem tr255 : TRow Tryz.prog 255 (some ti255) := fun i h => by cases h; exact ⟨Tryz.underlying255, by kernel_rfl, by kernel_rfl, by kernel_rfl, (fun _ h => by cases h), (fun h => by cases h)⟩
theorem tr256 : TRow Tryz.prog 256 (some ti256) := fun i h => by cases h; exact ⟨Tryz.underlying256, by kernel_rfl, by kernel_rfl, by kernel_rfl, (fun _ h => by cases h), (fun h => by cases h)⟩
theorem tr257 : TRow Tryz.prog 257 (some ti257) := fun i h => by cases h; exact ⟨Tryz.underlying257, by kernel_rfl, by kernel_rfl, by kernel_rfl, (fun _ h => by cases h), (fun h => by cases h)⟩
theorem tr258 : TRow Tryz.prog 258 (some ti258) := fun i h => by cases h; exact ⟨Tryz.underlying258, by kernel_rfl, by kernel_rfl, by kernel_rfl, (fun _ h => by cases h), (fun h => by cases h)⟩
theorem tr259 : TRow Tryz.prog 259 (some ti259) := fun i h => by cases h; exact ⟨Tryz.underlying259, by kernel_rfl, by kernel_rfl, by kernel_rfl, (fun _ h => by cases h), (fun h => by cases h)⟩
theorem tr260 : TRow Tryz.prog 260 (some ti260) := fun i h => by cases h; exact ⟨Tryz.underlying260, by kernel_rfl, by kernel_rfl, by kernel_rfl, (fun _ h => by cases h), (fun h => by cases h)⟩
theorem tr261 : TRow Tryz.prog 261 (some ti261) := fun i h => by cases h; exact ⟨Tryz.underlying261, by kernel_rfl, by kernel_rfl, by kernel_rfl, (fun _ h => by cases h), (fun h => by cases h)⟩
theorem tr262 : TRow Tryz.prog 262 (some ti262) := fun i h => by cases h; exact ⟨Tryz.underlying262, by kernel_rfl, by kernel_rfl, by kernel_rfl, (fun _ h => by cases h), (fun h => by cases h)⟩
theorem tr264 : TRow Tryz.prog 264 (some ti264) := fun i h => by cases h; exact ⟨Tryz.underlying264, by kernel_rfl, by kernel_rfl, by kernel_rfl, (fun _ h => by cases h), (fun h => by cases h)⟩
theorem tr265 : TRow Tryz.prog 265 (some ti265) := fun i h => by cases h; exact ⟨Tryz.underlying265, by kernel_rfl, by kernel_rfl, by kernel_rfl, (fun _ h => by cases h), (fun h => by cases h)⟩
theorem tr266 : TRow Tryz.prog 266 (some ti266) := fun i h => by cases h; exact ⟨Tryz.underlying266, by kernel_rfl, by kernel_rfl, by kernel_rfl, (fun _ h => by cases h), (fun h => by cases h)⟩
theorem tr267 : TRow Tryz.prog 267 (some ti267) := fun i h => by cases h; exact ⟨Tryz.underlying267, by kernel_rfl, by kernel_rfl, by kernel_rfl, (fun _ h => by cases h), (fun h => by cases h)⟩
theorem tr268 : TRow Tryz.prog 268 (some ti268) := fun i h => by cases h; exact ⟨Tryz.underlying268, by kernel_rfl, by kernel_rfl, by kernel_rfl, (fun _ h => by cases h), (fun h => by cases h)⟩
theorem tr269 : TRow Tryz.prog 269 (some ti269) := fun i h => by cases h; exact ⟨Tryz.underlying269, by kernel_rfl, by kernel_rfl, by kernel_rfl, (fun _ h => by cases h), (fun _ => ⟨by kernel_rfl, by kernel_rfl⟩)⟩
theorem tr270 : TRow Tryz.prog 270 (some ti270) := fun i h => by cases h; exact ⟨Tryz.underlying270, by kernel_rfl, by kernel_rfl, by kernel_rfl, (fun _ h => by cases h), (fun h => by cases h)⟩
theorem tr271 : TRow Tryz.prog 271 (some ti271) := fun i h => by cases h; exact ⟨Tryz.underlying271, by kernel_rfl, by kernel_rfl, by kernel_rfl, (fun _ h => by cases h), (fun h => by cases h)⟩
theorem tr272 : TRow Tryz.prog 272 (some ti272) := fun i h => by cases h; exact ⟨Tryz.underlying272, by kernel_rfl, by kernel_rfl, by kernel_rfl, (fun _ h => by cases h), (fun h => by cases h)⟩
theorem tr273 : TRow Tryz.prog 273 (some ti273) := fun i h => by cases h; exact ⟨Tryz.underlying273, by kernel_rfl, by kernel_rfl, by kernel_rfl, (fun _ h => by cases h; exact int_law Tryz.underlying273), (fun h => by cases h)⟩
theorem tr274 : TRow Tryz.prog 274 (some ti274) := fun i h => by cases h; exact ⟨Tryz.underlying274, by kernel_rfl, by kernel_rfl, by kernel_rfl, (fun _ h => by cases h; exact int_law Tryz.underlying274), (fun h => by cases h)⟩
theorem tr275 : TRow Tryz.prog 275 (some ti275) := fun i h => by cases h; exact ⟨Tryz.underlying275, by kernel_rfl, by kernel_rfl, by kernel_rfl, (fun _ h => by cases h), (fun h => by cases h)⟩
theorem tr276 : TRow Tryz.prog 276 (some ti276) := fun i h => by cases h; exact ⟨Tryz.underlying276, by kernel_rfl, by kernel_rfl, by kernel_rfl, (fun _ h => by cases h), (fun h => by cases h)⟩
theorem tr277 : TRow Tryz.prog 277 (some ti277) := fun i h => by cases h; exact ⟨Tryz.underlying277, by kernel_rfl, by kernel_rfl, by kernel_rfl, (fun _ h => by cases h; exact int_law Tryz.underlying277), (fun h => by cases h)⟩
theorem tr278 : TRow Tryz.prog 278 (some ti278) := fun i h => by cases h; exact ⟨Tryz.underlying278, by kernel_rfl, by kernel_rfl, by kernel_rfl, (fun _ h => by cases h; exact int_law Tryz.underlying278), (fun h => by cases h)⟩
theorem tr279 : TRow Tryz.prog 279 (some ti279) := fun i h => by cases h; exact ⟨Tryz.underlying279, by kernel_rfl, by kernel_rfl, by kernel_rfl, (fun _ h => by cases h), (fun h => by cases h)⟩
theorem tr280 : TRow Tryz.prog 280 (some ti280) := fun i h => by cases h; exact ⟨Tryz.underlying280, by kernel_rfl, by kernel_rfl, by kernel_rfl, (fun _ h => by cases h), (fun h => by cases h)⟩
set_option maxRecDepth 100000 in
theorem trows : TRows Tryz.prog 0 tys :=
  trows_cons trow_none <|
  trows_cons tr1 <|
  trows_cons tr2 <|
  trows_cons tr3 <|
  trows_cons tr4 <|
  trows_cons tr5 <|
  trows_cons tr6 <|
  trows_cons tr7 <|
  trows_cons tr8 <|
  trows_cons tr9 <|
  trows_cons tr10 <|
  trows_cons tr11 <|
  trows_cons tr12 <|
  trows_cons tr13 <|
  trows_cons tr14 <|
  trows_cons tr15 <|
  trows_cons tr16 <|
  trows_cons tr17 <|
  trows_cons tr18 <|
  trows_cons tr19 <|
  trows_cons trow_none <|
  trows_cons tr21 <|
  trows_cons tr22 <|
  trows_cons tr23 <|
  trows_cons tr24 <|
  trows_cons tr25 <|
  trows_cons tr26 <|
  trows_cons tr27 <|
  trows_cons tr28 <|
  trows_cons tr29 <|
  trows_cons tr30 <|
  trows_cons tr31 <|
  trows_cons tr32 <|
  trows_cons tr33 <|
  trows_cons tr34 <|
  trows_cons tr35 <|
  trows_cons tr36 <|
  trows_cons tr37 <|
  trows_cons tr38 <|
  trows_cons tr39 <|
  trows_cons tr40 <|
  trows_cons tr41 <|
  trows_cons tr42 <|
  trows_cons tr43 <|
  trows_cons tr44 <|
  trows_cons tr45 <|
  trows_cons tr46 <|
  trows_cons tr47 <|
  trows_cons tr48 <|
  trows_cons tr49 <|
  trows_cons tr50 <|
  trows_cons trow_none <|
  trows_cons tr52 <|
  trows_cons tr53 <|
  trows_cons tr54 <|
  trows_cons tr55 <|
  trows_cons tr56 <|
  trows_cons tr57 <|
  trows_cons tr58 <|
  trows_cons trow_none <|
  trows_cons tr60 <|
  trows_cons tr61 <|
  trows_cons tr62 <|
  trows_cons tr63 <|
  trows_cons tr64 <|
  trows_cons tr65 <|
  trows_cons tr66 <|
  trows_cons tr67 <|
  trows_cons tr68 <|
  trows_cons tr69 <|
  trows_cons tr70 <|
  trows_cons tr71 <|
  trows_cons trow_none <|
  trows_cons tr73 <|
  trows_cons trow_none <|
  trows_cons tr75 <|
  trows_cons tr76 <|
  trows_cons tr77 <|
  trows_cons tr78 <|
  trows_cons tr79 <|
  trows_cons tr80 <|
  trows_cons tr81 <|
  trows_cons tr82 <|
  trows_cons tr83 <|
  trows_cons tr84 <|
  trows_cons tr85 <|
  trows_cons trow_none <|
  trows_cons tr87 <|
  trows_cons tr88 <|
  trows_cons tr89 <|
  trows_cons trow_none <|
  trows_cons tr91 <|
  trows_cons trow_none <|
  trows_cons tr93 <|
  trows_cons tr94 <|
  trows_cons tr95 <|
  trows_cons tr96 <|
  trows_cons tr97 <|
  trows_cons tr98 <|
  trows_cons tr99 <|
  trows_cons tr100 <|
  trows_cons tr101 <|
  trows_cons trow_none <|
  trows_cons tr103 <|
  trows_cons tr104 <|
  trows_cons tr105 <|
  trows_cons trow_none <|
  trows_cons tr107 <|
  trows_cons tr108 <|
  trows_cons tr109 <|
  trows_cons tr110 <|
  trows_cons tr111 <|
  trows_cons tr112 <|
  trows_cons tr113 <|
  trows_cons tr114 <|
  trows_cons tr115 <|
  trows_cons tr116 <|
  trows_cons tr117 <|
  trows_cons tr118 <|
  trows_cons tr119 <|
  trows_cons tr120 <|
  trows_cons tr121 <|
  trows_cons tr122 <|
  trows_cons tr123 <|
  trows_cons tr124 <|
  trows_cons tr125 <|
  trows_cons tr126 <|
  trows_cons tr127 <|
  trows_cons tr128 <|
  trows_cons tr129 <|
  trows_cons tr130 <|
  trows_cons tr131 <|
  trows_cons tr132 <|
  trows_cons tr133 <|
  trows_cons tr134 <|
  trows_cons tr135 <|
  trows_cons tr136 <|
  trows_cons tr137 <|
  trows_cons tr138 <|
  trows_cons tr139 <|
  trows_cons tr140 <|
  trows_cons tr141 <|
  trows_cons tr142 <|
  trows_cons tr143 <|
  trows_cons tr144 <|
  trows_cons tr145 <|
  trows_cons tr146 <|
  trows_cons tr147 <|
  trows_cons tr148 <|
  trows_cons tr149 <|
  trows_cons tr150 <|
  trows_cons tr151 <|
  trows_cons tr152 <|
  trows_cons tr153 <|
  trows_cons tr154 <|
  trows_cons tr155 <|
  trows_cons tr156 <|
  trows_cons tr157 <|
  trows_cons tr158 <|
  trows_cons tr159 <|
  trows_cons tr160 <|
  trows_cons tr161 <|
  trows_cons trow_none <|
  trows_cons tr163 <|
  trows_cons tr164 <|
  trows_cons tr165 <|
  trows_cons tr166 <|
  trows_cons tr167 <|
  trows_cons tr168 <|
  trows_cons tr169 <|
  trows_cons tr170 <|
  trows_cons tr171 <|
  trows_cons tr172 <|
  trows_cons tr173 <|
  trows_cons tr174 <|
  trows_cons tr175 <|
  trows_cons tr176 <|
  trows_cons tr177 <|
  trows_cons tr178 <|
  trows_cons tr179 <|
  trows_cons tr180 <|
  trows_cons tr181 <|
  trows_cons tr182 <|
  trows_cons tr183 <|
  trows_cons tr184 <|
  trows_cons tr185 <|
  trows_cons tr186 <|
  trows_cons tr187 <|
  trows_cons tr188 <|
  trows_cons tr189 <|
  trows_cons tr190 <|
  trows_cons tr191 <|
  trows_cons tr192 <|
  trows_cons tr193 <|
  trows_cons tr194 <|
  trows_cons tr195 <|
  trows_cons tr196 <|
  trows_cons tr197 <|
  trows_cons tr198 <|
  trows_cons tr199 <|
  trows_cons tr200 <|
  trows_cons tr201 <|
  trows_cons tr202 <|
  trows_cons tr203 <|
  trows_cons tr204 <|
  trows_cons tr205 <|
  trows_cons tr206 <|
  trows_cons tr207 <|
  trows_cons tr208 <|
  trows_cons tr209 <|
  trows_cons tr210 <|
  trows_cons tr211 <|
  trows_cons tr212 <|
  trows_cons tr213 <|
  trows_cons tr214 <|
  trows_cons tr215 <|
  trows_cons tr216 <|
  trows_cons tr217 <|
  trows_cons tr218 <|
  trows_cons tr219 <|
  trows_cons tr220 <|
  trows_cons tr221 <|
  trows_cons tr222 <|
  trows_cons tr223 <|
  trows_cons tr224 <|
  trows_cons tr225 <|
  trows_cons tr226 <|
  trows_cons tr227 <|
  trows_cons trow_none <|
  trows_cons tr229 <|
  trows_cons tr230 <|
  trows_cons tr231 <|
  trows_cons tr232 <|
  trows_cons tr233 <|
  trows_cons tr234 <|
  trows_cons tr235 <|
  trows_cons tr236 <|
  trows_cons tr237 <|
  trows_cons tr238 <|
  trows_cons tr239 <|
  trows_cons tr240 <|
  trows_cons tr241 <|
  trows_cons tr242 <|
  trows_cons tr243 <|
  trows_cons tr244 <|
  trows_cons tr245 <|
  trows_cons tr246 <|
  trows_cons tr247 <|
  trows_cons tr248 <|
  trows_cons tr249 <|
  trows_cons tr250 <|
  trows_cons tr251 <|
  trows_cons tr252 <|
  trows_cons tr253 <|
  trows_cons tr254 <|
  trows_cons tr255 <|
  trows_cons tr256 <|
  trows_cons tr257 <|
  trows_cons tr258 <|
  trows_cons tr259 <|
  trows_cons tr260 <|
  trows_cons tr261 <|
  trows_cons tr262 <|
  trows_cons trow_none <|
  trows_cons tr264 <|
  trows_cons tr265 <|
  trows_cons tr266 <|
  trows_cons tr267 <|
  trows_cons tr268 <|
  trows_cons tr269 <|
  trows_cons tr270 <|
  trows_cons tr271 <|
  trows_cons tr272 <|
  trows_cons tr273 <|
  trows_cons tr274 <|
  trows_cons tr275 <|
  trows_cons tr276 <|
  trows_cons tr277 <|
  trows_cons tr278 <|
  trows_cons tr279 <|
  trows_cons tr280 <|
  trows_nil
theorem tok : TOk Tryz.prog T := tok_rows trows
end Go.Proofs.YtfaleabndlcanaaGreatDoor
