/- JS7: own texts of this seat, joined by pack2.py: Ty. -/
import Derived.Test.YtjogkbekekdkjaaGreatDoorJS6
import Derived.Test.YtjogkbekekdkjaaGreatDoorProg
set_option linter.unusedVariables false
set_option linter.unusedSimpArgs false
set_option maxRecDepth 100000
set_option maxHeartbeats 64000000
namespace Go.Proofs.YtjogkbekekdkjaaGreatDoor
section
open Go Go.AM
def ti1:TI:=⟨.func #[] #[] false,1,8,.nilFn,.nilFunc,none,false,false⟩
def ti2:TI:=⟨.int .i64,1,8,.int .i64 0,.int .i64 0,some (.int .i64),false,false⟩
def ti3:TI:=⟨.int .i64,1,8,.int .i64 0,.int .i64 0,some (.int .i64),false,false⟩
def ti4:TI:=⟨.bool,1,1,.bool false,.bool false,some .bool,false,false⟩
def ti5:TI:=⟨.int .u8,1,1,.int .u8 0,.int .u8 0,some (.int .u8),false,false⟩
def ti6:TI:=⟨.int .u8,1,1,.int .u8 0,.int .u8 0,some (.int .u8),false,false⟩
def ti7:TI:=⟨.struct #[⟨ "x",2,0,false, "", "runtime",0⟩,⟨ "y",3,1,false, "", "runtime",8⟩,⟨ "signed",4,2,false, "", "runtime",16⟩,⟨ "code",6,3,false, "", "runtime",17⟩],4,24,.agg [.int .i64 0,.int .i64 0,.bool false,.int .u8 0],.agg #[.int .i64 0,.int .i64 0,.bool false,.int .u8 0],none,true,false⟩
def ti8:TI:=⟨.struct #[⟨ "x",2,0,false, "", "runtime",0⟩,⟨ "y",3,1,false, "", "runtime",8⟩,⟨ "signed",4,2,false, "", "runtime",16⟩,⟨ "code",6,3,false, "", "runtime",17⟩],4,24,.agg [.int .i64 0,.int .i64 0,.bool false,.int .u8 0],.agg #[.int .i64 0,.int .i64 0,.bool false,.int .u8 0],none,true,false⟩
def ti9:TI:=⟨.string,1,16,.str ByteArray.empty,.string ByteArray.empty,some .str,false,false⟩
def ti10:TI:=⟨.string,1,16,.str ByteArray.empty,.string ByteArray.empty,some .str,false,false⟩
def ti11:TI:=⟨.string,1,16,.str ByteArray.empty,.string ByteArray.empty,some .str,false,false⟩
def ti12:TI:=⟨.int .u64,1,8,.int .u64 0,.int .u64 0,some (.int .u64),false,false⟩
def ti13:TI:=⟨.struct #[⟨ "msg",9,0,false, "", "runtime",0⟩,⟨ "addr",12,1,false, "", "runtime",16⟩],2,24,.agg [.str ByteArray.empty,.int .u64 0],.agg #[.string ByteArray.empty,.int .u64 0],none,false,false⟩
def ti14:TI:=⟨.struct #[⟨ "msg",9,0,false, "", "runtime",0⟩,⟨ "addr",12,1,false, "", "runtime",16⟩],2,24,.agg [.str ByteArray.empty,.int .u64 0],.agg #[.string ByteArray.empty,.int .u64 0],none,false,false⟩
def ti15:TI:=⟨.pointer 350,1,8,.nilP,.pointer none,none,false,false⟩
def ti16:TI:=⟨.pointer 353,1,8,.nilP,.pointer none,none,false,false⟩
def ti17:TI:=⟨.pointer 361,1,8,.nilP,.pointer none,none,false,false⟩
def ti18:TI:=⟨.struct #[⟨ "typ",17,0,false, "", "internal/runtime/maps",0⟩],1,8,.agg [.nilP],.agg #[.pointer none],none,false,false⟩
def ti19:TI:=⟨.struct #[⟨ "typ",17,0,false, "", "internal/runtime/maps",0⟩],1,8,.agg [.nilP],.agg #[.pointer none],none,false,false⟩
def ti21:TI:=⟨.int .i32,1,4,.int .i32 0,.int .i32 0,some (.int .i32),false,false⟩
def ti22:TI:=⟨.slice 26,1,24,.nilS,.slice none 0 0,none,false,false⟩
def ti23:TI:=⟨.struct #[⟨ "Attrs",5,0,false, "", "",0⟩,⟨ "Gap",5,1,false, "", "",1⟩,⟨ "Rows",22,2,false, "", "",8⟩],3,32,.agg [.int .u8 0,.int .u8 0,.nilS],.agg #[.int .u8 0,.int .u8 0,.slice none 0 0],none,true,false⟩
def ti24:TI:=⟨.struct #[⟨ "Attrs",5,0,false, "", "",0⟩,⟨ "Gap",5,1,false, "", "",1⟩,⟨ "Rows",22,2,false, "", "",8⟩],3,32,.agg [.int .u8 0,.int .u8 0,.nilS],.agg #[.int .u8 0,.int .u8 0,.slice none 0 0],none,true,false⟩
def ti25:TI:=⟨.slice 100,1,24,.nilS,.slice none 0 0,none,false,false⟩
def ti26:TI:=⟨.slice 5,1,24,.nilS,.slice none 0 0,none,false,false⟩
def ti27:TI:=⟨.struct #[⟨ "T",24,0,false, "", "",0⟩,⟨ "Rules",25,3,false, "", "",32⟩,⟨ "Weights",26,4,false, "", "",56⟩],5,80,.agg [.int .u8 0,.int .u8 0,.nilS,.nilS,.nilS],.agg #[.int .u8 0,.int .u8 0,.slice none 0 0,.slice none 0 0,.slice none 0 0],none,true,false⟩
def ti28:TI:=⟨.struct #[⟨ "T",24,0,false, "", "",0⟩,⟨ "Rules",25,3,false, "", "",32⟩,⟨ "Weights",26,4,false, "", "",56⟩],5,80,.agg [.int .u8 0,.int .u8 0,.nilS,.nilS,.nilS],.agg #[.int .u8 0,.int .u8 0,.slice none 0 0,.slice none 0 0,.slice none 0 0],none,true,false⟩
def ti29:TI:=⟨.slice 9,1,24,.nilS,.slice none 0 0,none,false,false⟩
def ti30:TI:=⟨.slice 80,1,24,.nilS,.slice none 0 0,none,false,false⟩
def ti31:TI:=⟨.struct #[⟨ "Name",9,0,false, "", "",0⟩,⟨ "Attrs",29,1,false, "", "",16⟩,⟨ "Rows",30,2,false, "", "",40⟩],3,64,.agg [.str ByteArray.empty,.nilS,.nilS],.agg #[.string ByteArray.empty,.slice none 0 0,.slice none 0 0],none,true,false⟩
def ti32:TI:=⟨.struct #[⟨ "Name",9,0,false, "", "",0⟩,⟨ "Attrs",29,1,false, "", "",16⟩,⟨ "Rows",30,2,false, "", "",40⟩],3,64,.agg [.str ByteArray.empty,.nilS,.nilS],.agg #[.string ByteArray.empty,.slice none 0 0,.slice none 0 0],none,true,false⟩
def ti33:TI:=⟨.slice 62,1,24,.nilS,.slice none 0 0,none,false,false⟩
def ti34:TI:=⟨.slice 2,1,24,.nilS,.slice none 0 0,none,false,false⟩
def ti36:TI:=⟨.func #[28] #[32,33,34,4] false,1,8,.nilFn,.nilFunc,none,false,false⟩
def ti37:TI:=⟨.func #[] #[4] false,1,8,.nilFn,.nilFunc,none,false,false⟩
def ti38:TI:=⟨.slice 50,1,24,.nilS,.slice none 0 0,none,false,false⟩
def ti39:TI:=⟨.struct #[⟨ "Weights",34,0,false, "", "",0⟩,⟨ "Edges",38,1,false, "", "",24⟩],2,48,.agg [.nilS,.nilS],.agg #[.slice none 0 0,.slice none 0 0],none,true,false⟩
def ti40:TI:=⟨.struct #[⟨ "Weights",34,0,false, "", "",0⟩,⟨ "Edges",38,1,false, "", "",24⟩],2,48,.agg [.nilS,.nilS],.agg #[.slice none 0 0,.slice none 0 0],none,true,false⟩
def ti41:TI:=⟨.int .i64,1,8,.int .i64 0,.int .i64 0,some (.int .i64),false,false⟩
def ti43:TI:=⟨.func #[32,33,34] #[40,41] false,1,8,.nilFn,.nilFunc,none,false,false⟩
def ti44:TI:=⟨.func #[33] #[33] false,1,8,.nilFn,.nilFunc,none,false,false⟩
def ti45:TI:=⟨.int .u32,1,4,.int .u32 0,.int .u32 0,some (.int .u32),false,false⟩
def ti46:TI:=⟨.int .u32,1,4,.int .u32 0,.int .u32 0,some (.int .u32),false,false⟩
def ti47:TI:=⟨.struct #[⟨ "Lhs",46,0,false, "", "",0⟩,⟨ "Rhs",46,1,false, "", "",4⟩],2,8,.agg [.int .u32 0,.int .u32 0],.agg #[.int .u32 0,.int .u32 0],none,true,false⟩
def ti48:TI:=⟨.struct #[⟨ "Lhs",46,0,false, "", "",0⟩,⟨ "Rhs",46,1,false, "", "",4⟩],2,8,.agg [.int .u32 0,.int .u32 0],.agg #[.int .u32 0,.int .u32 0],none,true,false⟩
def ti49:TI:=⟨.struct #[⟨ "Lhs",46,0,false, "", "",0⟩,⟨ "Rhs",46,1,false, "", "",4⟩],2,8,.agg [.int .u32 0,.int .u32 0],.agg #[.int .u32 0,.int .u32 0],none,true,false⟩
def ti50:TI:=⟨.slice 3,1,24,.nilS,.slice none 0 0,none,false,false⟩
def ti51:TI:=⟨.struct #[⟨ "From",9,0,false, "", "",0⟩,⟨ "Lhs",50,1,false, "", "",16⟩,⟨ "To",9,2,false, "", "",40⟩,⟨ "Rhs",50,3,false, "", "",56⟩],4,80,.agg [.str ByteArray.empty,.nilS,.str ByteArray.empty,.nilS],.agg #[.string ByteArray.empty,.slice none 0 0,.string ByteArray.empty,.slice none 0 0],none,true,false⟩
def ti52:TI:=⟨.struct #[⟨ "From",9,0,false, "", "",0⟩,⟨ "Lhs",50,1,false, "", "",16⟩,⟨ "To",9,2,false, "", "",40⟩,⟨ "Rhs",50,3,false, "", "",56⟩],4,80,.agg [.str ByteArray.empty,.nilS,.str ByteArray.empty,.nilS],.agg #[.string ByteArray.empty,.slice none 0 0,.string ByteArray.empty,.slice none 0 0],none,true,false⟩
def ti53:TI:=⟨.slice 202,1,24,.nilS,.slice none 0 0,none,false,false⟩
def ti54:TI:=⟨.struct #[⟨ "Lhs",50,0,false, "", "",0⟩,⟨ "Rhs",3,1,false, "", "",24⟩,⟨ "Pattern",53,2,false, "", "",32⟩],3,56,.agg [.nilS,.int .i64 0,.nilS],.agg #[.slice none 0 0,.int .i64 0,.slice none 0 0],none,true,false⟩
def ti55:TI:=⟨.struct #[⟨ "Lhs",50,0,false, "", "",0⟩,⟨ "Rhs",3,1,false, "", "",24⟩,⟨ "Pattern",53,2,false, "", "",32⟩],3,56,.agg [.nilS,.int .i64 0,.nilS],.agg #[.slice none 0 0,.int .i64 0,.slice none 0 0],none,true,false⟩
def ti56:TI:=⟨.struct #[⟨ "Lhs",50,0,false, "", "",0⟩,⟨ "Rhs",50,1,false, "", "",24⟩],2,48,.agg [.nilS,.nilS],.agg #[.slice none 0 0,.slice none 0 0],none,true,false⟩
def ti57:TI:=⟨.struct #[⟨ "Lhs",50,0,false, "", "",0⟩,⟨ "Rhs",50,1,false, "", "",24⟩],2,48,.agg [.nilS,.nilS],.agg #[.slice none 0 0,.slice none 0 0],none,true,false⟩
def ti58:TI:=⟨.slice 213,1,24,.nilS,.slice none 0 0,none,false,false⟩
def ti59:TI:=⟨.struct #[⟨ "Vars",3,0,false, "", "",0⟩,⟨ "Atoms",58,1,false, "", "",8⟩],2,32,.agg [.int .i64 0,.nilS],.agg #[.int .i64 0,.slice none 0 0],none,true,false⟩
def ti60:TI:=⟨.struct #[⟨ "Vars",3,0,false, "", "",0⟩,⟨ "Atoms",58,1,false, "", "",8⟩],2,32,.agg [.int .i64 0,.nilS],.agg #[.int .i64 0,.slice none 0 0],none,true,false⟩
def ti61:TI:=⟨.struct #[⟨ "Name",9,0,false, "", "",0⟩,⟨ "Table",9,1,false, "", "",16⟩,⟨ "Kind",3,2,false, "", "",32⟩,⟨ "FD",48,3,false, "", "",40⟩,⟨ "MVD",49,5,false, "", "",48⟩,⟨ "IND",52,7,false, "", "",56⟩,⟨ "CFD",55,11,false, "", "",136⟩,⟨ "OD",57,14,false, "", "",192⟩,⟨ "Denial",60,16,false, "", "",240⟩],18,272,.agg [.str ByteArray.empty,.str ByteArray.empty,.int .i64 0,.int .u32 0,.int .u32 0,.int .u32 0,.int .u32 0,.str ByteArray.empty,.nilS,.str ByteArray.empty,.nilS,.nilS,.int .i64 0,.nilS,.nilS,.nilS,.int .i64 0,.nilS],.agg #[.string ByteArray.empty,.string ByteArray.empty,.int .i64 0,.int .u32 0,.int .u32 0,.int .u32 0,.int .u32 0,.string ByteArray.empty,.slice none 0 0,.string ByteArray.empty,.slice none 0 0,.slice none 0 0,.int .i64 0,.slice none 0 0,.slice none 0 0,.slice none 0 0,.int .i64 0,.slice none 0 0],none,true,false⟩
def ti62:TI:=⟨.struct #[⟨ "Name",9,0,false, "", "",0⟩,⟨ "Table",9,1,false, "", "",16⟩,⟨ "Kind",3,2,false, "", "",32⟩,⟨ "FD",48,3,false, "", "",40⟩,⟨ "MVD",49,5,false, "", "",48⟩,⟨ "IND",52,7,false, "", "",56⟩,⟨ "CFD",55,11,false, "", "",136⟩,⟨ "OD",57,14,false, "", "",192⟩,⟨ "Denial",60,16,false, "", "",240⟩],18,272,.agg [.str ByteArray.empty,.str ByteArray.empty,.int .i64 0,.int .u32 0,.int .u32 0,.int .u32 0,.int .u32 0,.str ByteArray.empty,.nilS,.str ByteArray.empty,.nilS,.nilS,.int .i64 0,.nilS,.nilS,.nilS,.int .i64 0,.nilS],.agg #[.string ByteArray.empty,.string ByteArray.empty,.int .i64 0,.int .u32 0,.int .u32 0,.int .u32 0,.int .u32 0,.string ByteArray.empty,.slice none 0 0,.string ByteArray.empty,.slice none 0 0,.slice none 0 0,.int .i64 0,.slice none 0 0,.slice none 0 0,.slice none 0 0,.int .i64 0,.slice none 0 0],none,true,false⟩
def ti63:TI:=⟨.func #[34] #[34] false,1,8,.nilFn,.nilFunc,none,false,false⟩
def ti64:TI:=⟨.func #[40,40] #[4] false,1,8,.nilFn,.nilFunc,none,false,false⟩
def ti65:TI:=⟨.func #[28] #[4] false,1,8,.nilFn,.nilFunc,none,false,false⟩
def ti66:TI:=⟨.slice 77,1,24,.nilS,.slice none 0 0,none,false,false⟩
def ti67:TI:=⟨.struct #[⟨ "Deleted",34,0,false, "", "",0⟩,⟨ "Weight",2,1,false, "", "",24⟩,⟨ "Proof",66,2,false, "", "",32⟩],3,56,.agg [.nilS,.int .i64 0,.nilS],.agg #[.slice none 0 0,.int .i64 0,.slice none 0 0],none,true,false⟩
def ti68:TI:=⟨.struct #[⟨ "Deleted",34,0,false, "", "",0⟩,⟨ "Weight",2,1,false, "", "",24⟩,⟨ "Proof",66,2,false, "", "",32⟩],3,56,.agg [.nilS,.int .i64 0,.nilS],.agg #[.slice none 0 0,.int .i64 0,.slice none 0 0],none,true,false⟩
def ti70:TI:=⟨.func #[32,33,34,3] #[68,41] false,1,8,.nilFn,.nilFunc,none,false,false⟩
def ti72:TI:=⟨.func #[32,33,34] #[4,41] false,1,8,.nilFn,.nilFunc,none,false,false⟩
def ti73:TI:=⟨.func #[32,33,34,68] #[4] false,1,8,.nilFn,.nilFunc,none,false,false⟩
def ti74:TI:=⟨.func #[40] #[2] false,1,8,.nilFn,.nilFunc,none,false,false⟩
def ti75:TI:=⟨.slice 121,1,24,.nilS,.slice none 0 0,none,false,false⟩
def ti76:TI:=⟨.struct #[⟨ "Vertex",3,0,false, "", "",0⟩,⟨ "Shares",75,1,false, "", "",8⟩],2,32,.agg [.int .i64 0,.nilS],.agg #[.int .i64 0,.slice none 0 0],none,true,false⟩
def ti77:TI:=⟨.struct #[⟨ "Vertex",3,0,false, "", "",0⟩,⟨ "Shares",75,1,false, "", "",8⟩],2,32,.agg [.int .i64 0,.nilS],.agg #[.int .i64 0,.slice none 0 0],none,true,false⟩
def ti78:TI:=⟨.slice 200,1,24,.nilS,.slice none 0 0,none,false,false⟩
def ti79:TI:=⟨.struct #[⟨ "ID",2,0,false, "", "",0⟩,⟨ "Values",78,1,false, "", "",8⟩],2,32,.agg [.int .i64 0,.nilS],.agg #[.int .i64 0,.slice none 0 0],none,true,false⟩
def ti80:TI:=⟨.struct #[⟨ "ID",2,0,false, "", "",0⟩,⟨ "Values",78,1,false, "", "",8⟩],2,32,.agg [.int .i64 0,.nilS],.agg #[.int .i64 0,.slice none 0 0],none,true,false⟩
def ti81:TI:=⟨.func #[34,2] #[4] false,1,8,.nilFn,.nilFunc,none,false,false⟩
def ti82:TI:=⟨.func #[66] #[66] false,1,8,.nilFn,.nilFunc,none,false,false⟩
def ti83:TI:=⟨.func #[28,34,66] #[4] false,1,8,.nilFn,.nilFunc,none,false,false⟩
def ti84:TI:=⟨.int .i8,1,1,.int .i8 0,.int .i8 0,some (.int .i8),false,false⟩
def ti85:TI:=⟨.struct #[⟨ "Kind",5,0,false, "", "",0⟩,⟨ "At",5,1,false, "", "",1⟩,⟨ "By",84,2,false, "", "",2⟩],3,3,.agg [.int .u8 0,.int .u8 0,.int .i8 0],.agg #[.int .u8 0,.int .u8 0,.int .i8 0],none,true,false⟩
def ti86:TI:=⟨.struct #[⟨ "Kind",5,0,false, "", "",0⟩,⟨ "At",5,1,false, "", "",1⟩,⟨ "By",84,2,false, "", "",2⟩],3,3,.agg [.int .u8 0,.int .u8 0,.int .i8 0],.agg #[.int .u8 0,.int .u8 0,.int .i8 0],none,true,false⟩
def ti87:TI:=⟨.array 2 86,6,6,.agg [.int .u8 0,.int .u8 0,.int .i8 0,.int .u8 0,.int .u8 0,.int .i8 0],.agg #[.int .u8 0,.int .u8 0,.int .i8 0,.int .u8 0,.int .u8 0,.int .i8 0],none,true,false⟩
def ti88:TI:=⟨.func #[68,86] #[68] false,1,8,.nilFn,.nilFunc,none,false,false⟩
def ti89:TI:=⟨.func #[28,87] #[4] false,1,8,.nilFn,.nilFunc,none,false,false⟩
def ti90:TI:=⟨.struct #[⟨ "L",5,0,false, "", "",0⟩,⟨ "R",5,1,false, "", "",1⟩],2,2,.agg [.int .u8 0,.int .u8 0],.agg #[.int .u8 0,.int .u8 0],none,true,false⟩
def ti91:TI:=⟨.struct #[⟨ "L",5,0,false, "", "",0⟩,⟨ "R",5,1,false, "", "",1⟩],2,2,.agg [.int .u8 0,.int .u8 0],.agg #[.int .u8 0,.int .u8 0],none,true,false⟩
def ti92:TI:=⟨.struct #[⟨ "Lhs",5,0,false, "", "",0⟩,⟨ "Rhs",5,1,false, "", "",1⟩,⟨ "Codes",26,2,false, "", "",8⟩],3,32,.agg [.int .u8 0,.int .u8 0,.nilS],.agg #[.int .u8 0,.int .u8 0,.slice none 0 0],none,true,false⟩
def ti93:TI:=⟨.struct #[⟨ "Lhs",5,0,false, "", "",0⟩,⟨ "Rhs",5,1,false, "", "",1⟩,⟨ "Codes",26,2,false, "", "",8⟩],3,32,.agg [.int .u8 0,.int .u8 0,.nilS],.agg #[.int .u8 0,.int .u8 0,.slice none 0 0],none,true,false⟩
def ti94:TI:=⟨.struct #[⟨ "X",26,0,false, "", "",0⟩,⟨ "Y",26,1,false, "", "",24⟩],2,48,.agg [.nilS,.nilS],.agg #[.slice none 0 0,.slice none 0 0],none,true,false⟩
def ti95:TI:=⟨.struct #[⟨ "X",26,0,false, "", "",0⟩,⟨ "Y",26,1,false, "", "",24⟩],2,48,.agg [.nilS,.nilS],.agg #[.slice none 0 0,.slice none 0 0],none,true,false⟩
def ti96:TI:=⟨.slice 208,1,24,.nilS,.slice none 0 0,none,false,false⟩
def ti97:TI:=⟨.struct #[⟨ "Vars",5,0,false, "", "",0⟩,⟨ "Atoms",96,1,false, "", "",8⟩],2,32,.agg [.int .u8 0,.nilS],.agg #[.int .u8 0,.slice none 0 0],none,true,false⟩
def ti98:TI:=⟨.struct #[⟨ "Vars",5,0,false, "", "",0⟩,⟨ "Atoms",96,1,false, "", "",8⟩],2,32,.agg [.int .u8 0,.nilS],.agg #[.int .u8 0,.slice none 0 0],none,true,false⟩
def ti99:TI:=⟨.struct #[⟨ "Kind",5,0,false, "", "",0⟩,⟨ "F",91,1,false, "", "",1⟩,⟨ "C",93,3,false, "", "",8⟩,⟨ "O",95,6,false, "", "",40⟩,⟨ "N",98,8,false, "", "",88⟩],10,120,.agg [.int .u8 0,.int .u8 0,.int .u8 0,.int .u8 0,.int .u8 0,.nilS,.nilS,.nilS,.int .u8 0,.nilS],.agg #[.int .u8 0,.int .u8 0,.int .u8 0,.int .u8 0,.int .u8 0,.slice none 0 0,.slice none 0 0,.slice none 0 0,.int .u8 0,.slice none 0 0],none,true,false⟩
def ti100:TI:=⟨.struct #[⟨ "Kind",5,0,false, "", "",0⟩,⟨ "F",91,1,false, "", "",1⟩,⟨ "C",93,3,false, "", "",8⟩,⟨ "O",95,6,false, "", "",40⟩,⟨ "N",98,8,false, "", "",88⟩],10,120,.agg [.int .u8 0,.int .u8 0,.int .u8 0,.int .u8 0,.int .u8 0,.nilS,.nilS,.nilS,.int .u8 0,.nilS],.agg #[.int .u8 0,.int .u8 0,.int .u8 0,.int .u8 0,.int .u8 0,.slice none 0 0,.slice none 0 0,.slice none 0 0,.int .u8 0,.slice none 0 0],none,true,false⟩
def ti102:TI:=⟨.func #[3,100] #[62,4] false,1,8,.nilFn,.nilFunc,none,false,false⟩
def ti103:TI:=⟨.func #[32,34] #[32] false,1,8,.nilFn,.nilFunc,none,false,false⟩
def ti104:TI:=⟨.func #[34,3,3] #[34] false,1,8,.nilFn,.nilFunc,none,false,false⟩
def ti105:TI:=⟨.func #[28,100,5] #[4] false,1,8,.nilFn,.nilFunc,none,false,false⟩
def ti107:TI:=⟨.func #[32,33,34] #[2,2,41] false,1,8,.nilFn,.nilFunc,none,false,false⟩
def ti108:TI:=⟨.array 2 34,2,48,.agg [.nilS,.nilS],.agg #[.slice none 0 0,.slice none 0 0],none,true,false⟩
def ti109:TI:=⟨.func #[32,33,108] #[4] false,1,8,.nilFn,.nilFunc,none,false,false⟩
def ti111:TI:=⟨.func #[32,33,34] #[34,41] false,1,8,.nilFn,.nilFunc,none,false,false⟩
def ti112:TI:=⟨.func #[34,34] #[4] false,1,8,.nilFn,.nilFunc,none,false,false⟩
def ti113:TI:=⟨.func #[28,34] #[4] false,1,8,.nilFn,.nilFunc,none,false,false⟩
def ti115:TI:=⟨.func #[24,3] #[32,4] false,1,8,.nilFn,.nilFunc,none,false,false⟩
def ti117:TI:=⟨.func #[3,25] #[33,4] false,1,8,.nilFn,.nilFunc,none,false,false⟩
def ti119:TI:=⟨.func #[] #[32,33] false,1,8,.nilFn,.nilFunc,none,false,false⟩
def ti120:TI:=⟨.struct #[⟨ "Edge",3,0,false, "", "",0⟩,⟨ "Amount",2,1,false, "", "",8⟩],2,16,.agg [.int .i64 0,.int .i64 0],.agg #[.int .i64 0,.int .i64 0],none,true,false⟩
def ti121:TI:=⟨.struct #[⟨ "Edge",3,0,false, "", "",0⟩,⟨ "Amount",2,1,false, "", "",8⟩],2,16,.agg [.int .i64 0,.int .i64 0],.agg #[.int .i64 0,.int .i64 0],none,true,false⟩
def ti122:TI:=⟨.slice 34,1,24,.nilS,.slice none 0 0,none,false,false⟩
def ti123:TI:=⟨.struct #[⟨ "Vertices",34,0,false, "", "",0⟩,⟨ "Edges",122,1,false, "", "",24⟩],2,48,.agg [.nilS,.nilS],.agg #[.slice none 0 0,.slice none 0 0],none,true,false⟩
def ti124:TI:=⟨.struct #[⟨ "Vertices",34,0,false, "", "",0⟩,⟨ "Edges",122,1,false, "", "",24⟩],2,48,.agg [.nilS,.nilS],.agg #[.slice none 0 0,.slice none 0 0],none,true,false⟩
def ti126:TI:=⟨.func #[32,33] #[124,41] false,1,8,.nilFn,.nilFunc,none,false,false⟩
def ti128:TI:=⟨.func #[34,2] #[3,4] false,1,8,.nilFn,.nilFunc,none,false,false⟩
def ti129:TI:=⟨.func #[40] #[41] false,1,8,.nilFn,.nilFunc,none,false,false⟩
def ti130:TI:=⟨.func #[32,2] #[3,4] false,1,8,.nilFn,.nilFunc,none,false,false⟩
def ti132:TI:=⟨.func #[40,3] #[50,2,41] false,1,8,.nilFn,.nilFunc,none,false,false⟩
def ti134:TI:=⟨.func #[40,2,3] #[66,41] false,1,8,.nilFn,.nilFunc,none,false,false⟩
def ti135:TI:=⟨.func #[32,33,34] #[4] false,1,8,.nilFn,.nilFunc,none,false,false⟩
def ti136:TI:=⟨.func #[34,2] #[34] false,1,8,.nilFn,.nilFunc,none,false,false⟩
def ti138:TI:=⟨.func #[32,34] #[50,41] false,1,8,.nilFn,.nilFunc,none,false,false⟩
def ti139:TI:=⟨.func #[40,50] #[4] false,1,8,.nilFn,.nilFunc,none,false,false⟩
def ti141:TI:=⟨.func #[40,50] #[2,41] false,1,8,.nilFn,.nilFunc,none,false,false⟩
def ti142:TI:=⟨.func #[40,2,66] #[4] false,1,8,.nilFn,.nilFunc,none,false,false⟩
def ti143:TI:=⟨.func #[3,3] #[50] false,1,8,.nilFn,.nilFunc,none,false,false⟩
def ti144:TI:=⟨.func #[34,2] #[3] false,1,8,.nilFn,.nilFunc,none,false,false⟩
def ti145:TI:=⟨.func #[34] #[] false,1,8,.nilFn,.nilFunc,none,false,false⟩
def ti146:TI:=⟨.pointer 77,1,8,.nilP,.pointer none,none,false,false⟩
def ti147:TI:=⟨.func #[75] #[75] false,1,8,.nilFn,.nilFunc,none,false,false⟩
def ti148:TI:=⟨.func #[3,93] #[55] false,1,8,.nilFn,.nilFunc,none,false,false⟩
def ti149:TI:=⟨.func #[3,95] #[57] false,1,8,.nilFn,.nilFunc,none,false,false⟩
def ti151:TI:=⟨.func #[3,98] #[60,4] false,1,8,.nilFn,.nilFunc,none,false,false⟩
def ti152:TI:=⟨.slice 48,1,24,.nilS,.slice none 0 0,none,false,false⟩
def ti153:TI:=⟨.func #[3,154] #[152] false,1,8,.nilFn,.nilFunc,none,false,false⟩
def ti154:TI:=⟨.slice 91,1,24,.nilS,.slice none 0 0,none,false,false⟩
def ti155:TI:=⟨.func #[32,30] #[32] false,1,8,.nilFn,.nilFunc,none,false,false⟩
def ti157:TI:=⟨.func #[40] #[75,2,41] false,1,8,.nilFn,.nilFunc,none,false,false⟩
def ti158:TI:=⟨.func #[40] #[50,41] false,1,8,.nilFn,.nilFunc,none,false,false⟩
def ti159:TI:=⟨.func #[32,33,34] #[124,41] false,1,8,.nilFn,.nilFunc,none,false,false⟩
def ti160:TI:=⟨.func #[124,34] #[4] false,1,8,.nilFn,.nilFunc,none,false,false⟩
def ti161:TI:=⟨.func #[34,162] #[4] false,1,8,.nilFn,.nilFunc,none,false,false⟩
def ti162:TI:=⟨.func #[2] #[4] false,1,8,.nilFn,.nilFunc,none,false,false⟩
def ti163:TI:=⟨.func #[24,3] #[32] false,1,8,.nilFn,.nilFunc,none,false,false⟩
def ti164:TI:=⟨.func #[26] #[78] false,1,8,.nilFn,.nilFunc,none,false,false⟩
def ti165:TI:=⟨.func #[32] #[41] false,1,8,.nilFn,.nilFunc,none,false,false⟩
def ti166:TI:=⟨.slice 60,1,24,.nilS,.slice none 0 0,none,false,false⟩
def ti168:TI:=⟨.func #[32,62] #[166,41] false,1,8,.nilFn,.nilFunc,none,false,false⟩
def ti170:TI:=⟨.func #[32,62] #[122,41] false,1,8,.nilFn,.nilFunc,none,false,false⟩
def ti171:TI:=⟨.func #[122] #[122] false,1,8,.nilFn,.nilFunc,none,false,false⟩
def ti172:TI:=⟨.int .u64,1,8,.int .u64 0,.int .u64 0,some (.int .u64),false,false⟩
def ti173:TI:=⟨.func #[2,2] #[4] false,1,8,.nilFn,.nilFunc,none,false,false⟩
def ti174:TI:=⟨.func #[32] #[34] false,1,8,.nilFn,.nilFunc,none,false,false⟩
def ti175:TI:=⟨.pointer 177,1,8,.nilP,.pointer none,none,false,false⟩
def ti176:TI:=⟨.struct #[⟨ "l",50,0,false, "", "dross/hitset",0⟩,⟨ "weight",2,1,false, "", "dross/hitset",24⟩],2,32,.agg [.nilS,.int .i64 0],.agg #[.slice none 0 0,.int .i64 0],none,true,false⟩
def ti177:TI:=⟨.struct #[⟨ "l",50,0,false, "", "dross/hitset",0⟩,⟨ "weight",2,1,false, "", "dross/hitset",24⟩],2,32,.agg [.nilS,.int .i64 0],.agg #[.slice none 0 0,.int .i64 0],none,true,false⟩
def ti178:TI:=⟨.pointer 244,1,8,.nilP,.pointer none,none,false,false⟩
def ti179:TI:=⟨.func #[40,3] #[178] false,1,8,.nilFn,.nilFunc,none,false,false⟩
def ti180:TI:=⟨.func #[175,2] #[4] false,1,8,.nilFn,.nilFunc,none,false,false⟩
def ti181:TI:=⟨.func #[2] #[66,41] false,1,8,.nilFn,.nilFunc,none,false,false⟩
def ti182:TI:=⟨.func #[34] #[4] false,1,8,.nilFn,.nilFunc,none,false,false⟩
def ti183:TI:=⟨.func #[50,50] #[4] false,1,8,.nilFn,.nilFunc,none,false,false⟩
def ti184:TI:=⟨.func #[50,3] #[4] false,1,8,.nilFn,.nilFunc,none,false,false⟩
def ti185:TI:=⟨.func #[40,187,66] #[3] false,1,8,.nilFn,.nilFunc,none,false,false⟩
def ti186:TI:=⟨.struct #[⟨ "Chosen",50,0,false, "", "",0⟩,⟨ "Excluded",50,1,false, "", "",24⟩,⟨ "Bound",2,2,false, "", "",48⟩],3,56,.agg [.nilS,.nilS,.int .i64 0],.agg #[.slice none 0 0,.slice none 0 0,.int .i64 0],none,true,false⟩
def ti187:TI:=⟨.struct #[⟨ "Chosen",50,0,false, "", "",0⟩,⟨ "Excluded",50,1,false, "", "",24⟩,⟨ "Bound",2,2,false, "", "",48⟩],3,56,.agg [.nilS,.nilS,.int .i64 0],.agg #[.slice none 0 0,.slice none 0 0,.int .i64 0],none,true,false⟩
def ti188:TI:=⟨.func #[30,189] #[3] false,1,8,.nilFn,.nilFunc,none,false,false⟩
def ti189:TI:=⟨.func #[80] #[4] false,1,8,.nilFn,.nilFunc,none,false,false⟩
def ti190:TI:=⟨.func #[38,193] #[4] false,1,8,.nilFn,.nilFunc,none,false,false⟩
def ti191:TI:=⟨.func #[50,192] #[4] false,1,8,.nilFn,.nilFunc,none,false,false⟩
def ti192:TI:=⟨.func #[3] #[4] false,1,8,.nilFn,.nilFunc,none,false,false⟩
def ti193:TI:=⟨.func #[50] #[4] false,1,8,.nilFn,.nilFunc,none,false,false⟩
def ti195:TI:=⟨.func #[66,2] #[66,4] false,1,8,.nilFn,.nilFunc,none,false,false⟩
def ti196:TI:=⟨.func #[34,3,3,3] #[] false,1,8,.nilFn,.nilFunc,none,false,false⟩
def ti197:TI:=⟨.func #[172] #[3] false,1,8,.nilFn,.nilFunc,none,false,false⟩
def ti198:TI:=⟨.func #[46,3] #[4] false,1,8,.nilFn,.nilFunc,none,false,false⟩
def ti199:TI:=⟨.struct #[⟨ "Kind",3,0,false, "", "",0⟩,⟨ "Num",2,1,false, "", "",8⟩,⟨ "Str",9,2,false, "", "",16⟩],3,32,.agg [.int .i64 0,.int .i64 0,.str ByteArray.empty],.agg #[.int .i64 0,.int .i64 0,.string ByteArray.empty],none,true,false⟩
def ti200:TI:=⟨.struct #[⟨ "Kind",3,0,false, "", "",0⟩,⟨ "Num",2,1,false, "", "",8⟩,⟨ "Str",9,2,false, "", "",16⟩],3,32,.agg [.int .i64 0,.int .i64 0,.str ByteArray.empty],.agg #[.int .i64 0,.int .i64 0,.string ByteArray.empty],none,true,false⟩
def ti201:TI:=⟨.struct #[⟨ "Any",4,0,false, "", "",0⟩,⟨ "Value",200,1,false, "", "",8⟩],4,40,.agg [.bool false,.int .i64 0,.int .i64 0,.str ByteArray.empty],.agg #[.bool false,.int .i64 0,.int .i64 0,.string ByteArray.empty],none,true,false⟩
def ti202:TI:=⟨.struct #[⟨ "Any",4,0,false, "", "",0⟩,⟨ "Value",200,1,false, "", "",8⟩],4,40,.agg [.bool false,.int .i64 0,.int .i64 0,.str ByteArray.empty],.agg #[.bool false,.int .i64 0,.int .i64 0,.string ByteArray.empty],none,true,false⟩
def ti203:TI:=⟨.func #[5] #[200] false,1,8,.nilFn,.nilFunc,none,false,false⟩
def ti204:TI:=⟨.func #[3,26] #[50] false,1,8,.nilFn,.nilFunc,none,false,false⟩
def ti205:TI:=⟨.struct #[⟨ "Var",5,0,false, "", "",0⟩,⟨ "Code",5,1,false, "", "",1⟩],2,2,.agg [.int .u8 0,.int .u8 0],.agg #[.int .u8 0,.int .u8 0],none,true,false⟩
def ti206:TI:=⟨.struct #[⟨ "Var",5,0,false, "", "",0⟩,⟨ "Code",5,1,false, "", "",1⟩],2,2,.agg [.int .u8 0,.int .u8 0],.agg #[.int .u8 0,.int .u8 0],none,true,false⟩
def ti207:TI:=⟨.struct #[⟨ "Left",206,0,false, "", "",0⟩,⟨ "Op",5,2,false, "", "",2⟩,⟨ "Right",206,3,false, "", "",3⟩],5,5,.agg [.int .u8 0,.int .u8 0,.int .u8 0,.int .u8 0,.int .u8 0],.agg #[.int .u8 0,.int .u8 0,.int .u8 0,.int .u8 0,.int .u8 0],none,true,false⟩
def ti208:TI:=⟨.struct #[⟨ "Left",206,0,false, "", "",0⟩,⟨ "Op",5,2,false, "", "",2⟩,⟨ "Right",206,3,false, "", "",3⟩],5,5,.agg [.int .u8 0,.int .u8 0,.int .u8 0,.int .u8 0,.int .u8 0],.agg #[.int .u8 0,.int .u8 0,.int .u8 0,.int .u8 0,.int .u8 0],none,true,false⟩
def ti209:TI:=⟨.struct #[⟨ "Var",3,0,false, "", "",0⟩,⟨ "Attr",3,1,false, "", "",8⟩,⟨ "Value",200,2,false, "", "",16⟩],5,48,.agg [.int .i64 0,.int .i64 0,.int .i64 0,.int .i64 0,.str ByteArray.empty],.agg #[.int .i64 0,.int .i64 0,.int .i64 0,.int .i64 0,.string ByteArray.empty],none,true,false⟩
def ti210:TI:=⟨.struct #[⟨ "Var",3,0,false, "", "",0⟩,⟨ "Attr",3,1,false, "", "",8⟩,⟨ "Value",200,2,false, "", "",16⟩],5,48,.agg [.int .i64 0,.int .i64 0,.int .i64 0,.int .i64 0,.str ByteArray.empty],.agg #[.int .i64 0,.int .i64 0,.int .i64 0,.int .i64 0,.string ByteArray.empty],none,true,false⟩
def ti211:TI:=⟨.func #[3,3,206] #[210] false,1,8,.nilFn,.nilFunc,none,false,false⟩
def ti212:TI:=⟨.struct #[⟨ "Left",210,0,false, "", "",0⟩,⟨ "Op",3,5,false, "", "",48⟩,⟨ "Right",210,6,false, "", "",56⟩],11,104,.agg [.int .i64 0,.int .i64 0,.int .i64 0,.int .i64 0,.str ByteArray.empty,.int .i64 0,.int .i64 0,.int .i64 0,.int .i64 0,.int .i64 0,.str ByteArray.empty],.agg #[.int .i64 0,.int .i64 0,.int .i64 0,.int .i64 0,.string ByteArray.empty,.int .i64 0,.int .i64 0,.int .i64 0,.int .i64 0,.int .i64 0,.string ByteArray.empty],none,true,false⟩
def ti213:TI:=⟨.struct #[⟨ "Left",210,0,false, "", "",0⟩,⟨ "Op",3,5,false, "", "",48⟩,⟨ "Right",210,6,false, "", "",56⟩],11,104,.agg [.int .i64 0,.int .i64 0,.int .i64 0,.int .i64 0,.str ByteArray.empty,.int .i64 0,.int .i64 0,.int .i64 0,.int .i64 0,.int .i64 0,.str ByteArray.empty],.agg #[.int .i64 0,.int .i64 0,.int .i64 0,.int .i64 0,.string ByteArray.empty,.int .i64 0,.int .i64 0,.int .i64 0,.int .i64 0,.int .i64 0,.string ByteArray.empty],none,true,false⟩
def ti214:TI:=⟨.func #[3] #[46] false,1,8,.nilFn,.nilFunc,none,false,false⟩
def ti215:TI:=⟨.func #[80] #[80] false,1,8,.nilFn,.nilFunc,none,false,false⟩
def ti217:TI:=⟨.func #[] #[75,2] false,1,8,.nilFn,.nilFunc,none,false,false⟩
def ti218:TI:=⟨.func #[50,219] #[] false,1,8,.nilFn,.nilFunc,none,false,false⟩
def ti219:TI:=⟨.func #[3,3] #[3] false,1,8,.nilFn,.nilFunc,none,false,false⟩
def ti220:TI:=⟨.func #[50] #[] false,1,8,.nilFn,.nilFunc,none,false,false⟩
def ti221:TI:=⟨.func #[122,182] #[4] false,1,8,.nilFn,.nilFunc,none,false,false⟩
def ti222:TI:=⟨.func #[34,162] #[3] false,1,8,.nilFn,.nilFunc,none,false,false⟩
def ti223:TI:=⟨.func #[34,162] #[34] false,1,8,.nilFn,.nilFunc,none,false,false⟩
def ti224:TI:=⟨.func #[9] #[4] false,1,8,.nilFn,.nilFunc,none,false,false⟩
def ti225:TI:=⟨.func #[29,9] #[4] false,1,8,.nilFn,.nilFunc,none,false,false⟩
def ti226:TI:=⟨.func #[78] #[4] false,1,8,.nilFn,.nilFunc,none,false,false⟩
def ti227:TI:=⟨.func #[3,48] #[166,41] false,1,8,.nilFn,.nilFunc,none,false,false⟩
def ti228:TI:=⟨.func #[3,60] #[4] false,1,8,.nilFn,.nilFunc,none,false,false⟩
def ti229:TI:=⟨.func #[3,55] #[4] false,1,8,.nilFn,.nilFunc,none,false,false⟩
def ti230:TI:=⟨.func #[3,57] #[4] false,1,8,.nilFn,.nilFunc,none,false,false⟩
def ti231:TI:=⟨.func #[32,55] #[122,41] false,1,8,.nilFn,.nilFunc,none,false,false⟩
def ti232:TI:=⟨.func #[32,57] #[122,41] false,1,8,.nilFn,.nilFunc,none,false,false⟩
def ti233:TI:=⟨.func #[32,60] #[122,41] false,1,8,.nilFn,.nilFunc,none,false,false⟩
def ti234:TI:=⟨.map 235 4,1,8,.nilM,.map none,none,false,false⟩
def ti235:TI:=⟨.array 3 2,3,24,.agg [.int .i64 0,.int .i64 0,.int .i64 0],.agg #[.int .i64 0,.int .i64 0,.int .i64 0],some (.arr 3),true,false⟩
def ti236:TI:=⟨.func #[34] #[235] false,1,8,.nilFn,.nilFunc,none,false,false⟩
def ti237:TI:=⟨.func #[122] #[34] true,1,8,.nilFn,.nilFunc,none,false,false⟩
def ti238:TI:=⟨.func #[122,239] #[] false,1,8,.nilFn,.nilFunc,none,false,false⟩
def ti239:TI:=⟨.func #[34,34] #[3] false,1,8,.nilFn,.nilFunc,none,false,false⟩
def ti240:TI:=⟨.func #[122,112] #[122] false,1,8,.nilFn,.nilFunc,none,false,false⟩
def ti241:TI:=⟨.func #[29] #[4] false,1,8,.nilFn,.nilFunc,none,false,false⟩
def ti242:TI:=⟨.func #[32,48] #[122,41] false,1,8,.nilFn,.nilFunc,none,false,false⟩
def ti243:TI:=⟨.struct #[⟨ "in",40,0,false, "", "dross/hitset",0⟩,⟨ "marks",50,2,false, "", "dross/hitset",48⟩,⟨ "left",3,3,false, "", "dross/hitset",72⟩],4,80,.agg [.nilS,.nilS,.nilS,.int .i64 0],.agg #[.slice none 0 0,.slice none 0 0,.slice none 0 0,.int .i64 0],none,true,false⟩
def ti244:TI:=⟨.struct #[⟨ "in",40,0,false, "", "dross/hitset",0⟩,⟨ "marks",50,2,false, "", "dross/hitset",48⟩,⟨ "left",3,3,false, "", "dross/hitset",72⟩],4,80,.agg [.nilS,.nilS,.nilS,.int .i64 0],.agg #[.slice none 0 0,.slice none 0 0,.slice none 0 0,.int .i64 0],none,true,false⟩
def ti245:TI:=⟨.func #[] #[3] false,1,8,.nilFn,.nilFunc,none,false,false⟩
def ti246:TI:=⟨.func #[299] #[66] true,1,8,.nilFn,.nilFunc,none,false,false⟩
def ti247:TI:=⟨.func #[40,187] #[4] false,1,8,.nilFn,.nilFunc,none,false,false⟩
def ti248:TI:=⟨.func #[40,187,75] #[4] false,1,8,.nilFn,.nilFunc,none,false,false⟩
def ti249:TI:=⟨.func #[38,193] #[3] false,1,8,.nilFn,.nilFunc,none,false,false⟩
def ti250:TI:=⟨.func #[50,192] #[3] false,1,8,.nilFn,.nilFunc,none,false,false⟩
def ti251:TI:=⟨.func #[50,3] #[3] false,1,8,.nilFn,.nilFunc,none,false,false⟩
def ti252:TI:=⟨.func #[75,2] #[4] false,1,8,.nilFn,.nilFunc,none,false,false⟩
def ti253:TI:=⟨.func #[34,3,3] #[] false,1,8,.nilFn,.nilFunc,none,false,false⟩
def ti254:TI:=⟨.int .i64,1,8,.int .i64 0,.int .i64 0,some (.int .i64),false,false⟩
def ti256:TI:=⟨.func #[34,3,3] #[3,254] false,1,8,.nilFn,.nilFunc,none,false,false⟩
def ti257:TI:=⟨.func #[34,3,3] #[4] false,1,8,.nilFn,.nilFunc,none,false,false⟩
def ti258:TI:=⟨.func #[34,3,3,3] #[3] false,1,8,.nilFn,.nilFunc,none,false,false⟩
def ti259:TI:=⟨.func #[34,3,3,3] #[3,4] false,1,8,.nilFn,.nilFunc,none,false,false⟩
def ti260:TI:=⟨.func #[45] #[3] false,1,8,.nilFn,.nilFunc,none,false,false⟩
def ti261:TI:=⟨.func #[262] #[3] false,1,8,.nilFn,.nilFunc,none,false,false⟩
def ti262:TI:=⟨.int .u64,1,8,.int .u64 0,.int .u64 0,some (.int .u64),false,false⟩
def ti263:TI:=⟨.func #[50,3,219] #[] false,1,8,.nilFn,.nilFunc,none,false,false⟩
def ti264:TI:=⟨.func #[50,3,3,3] #[] false,1,8,.nilFn,.nilFunc,none,false,false⟩
def ti265:TI:=⟨.func #[122,182] #[3] false,1,8,.nilFn,.nilFunc,none,false,false⟩
def ti266:TI:=⟨.func #[29,9] #[3] false,1,8,.nilFn,.nilFunc,none,false,false⟩
def ti267:TI:=⟨.func #[78,268] #[4] false,1,8,.nilFn,.nilFunc,none,false,false⟩
def ti268:TI:=⟨.func #[200] #[4] false,1,8,.nilFn,.nilFunc,none,false,false⟩
def ti269:TI:=⟨.func #[3,152] #[41] false,1,8,.nilFn,.nilFunc,none,false,false⟩
def ti270:TI:=⟨.func #[46] #[50] false,1,8,.nilFn,.nilFunc,none,false,false⟩
def ti271:TI:=⟨.func #[3,3] #[213] false,1,8,.nilFn,.nilFunc,none,false,false⟩
def ti272:TI:=⟨.func #[58,274] #[4] false,1,8,.nilFn,.nilFunc,none,false,false⟩
def ti273:TI:=⟨.func #[3,3,210] #[4] false,1,8,.nilFn,.nilFunc,none,false,false⟩
def ti274:TI:=⟨.func #[213] #[4] false,1,8,.nilFn,.nilFunc,none,false,false⟩
def ti275:TI:=⟨.func #[53,276] #[4] false,1,8,.nilFn,.nilFunc,none,false,false⟩
def ti276:TI:=⟨.func #[202] #[4] false,1,8,.nilFn,.nilFunc,none,false,false⟩
def ti277:TI:=⟨.func #[3,50] #[4] false,1,8,.nilFn,.nilFunc,none,false,false⟩
def ti278:TI:=⟨.func #[55,78] #[4] false,1,8,.nilFn,.nilFunc,none,false,false⟩
def ti279:TI:=⟨.func #[202,200] #[4] false,1,8,.nilFn,.nilFunc,none,false,false⟩
def ti280:TI:=⟨.func #[55] #[202] false,1,8,.nilFn,.nilFunc,none,false,false⟩
def ti281:TI:=⟨.func #[55,78,78] #[4] false,1,8,.nilFn,.nilFunc,none,false,false⟩
def ti282:TI:=⟨.func #[32,192] #[41] false,1,8,.nilFn,.nilFunc,none,false,false⟩
def ti283:TI:=⟨.func #[80,80,57] #[3] false,1,8,.nilFn,.nilFunc,none,false,false⟩
def ti284:TI:=⟨.func #[32,60] #[41] false,1,8,.nilFn,.nilFunc,none,false,false⟩
def ti285:TI:=⟨.func #[32,60,30,286] #[4] false,1,8,.nilFn,.nilFunc,none,false,false⟩
def ti286:TI:=⟨.func #[30] #[4] false,1,8,.nilFn,.nilFunc,none,false,false⟩
def ti287:TI:=⟨.func #[34,3] #[34] false,1,8,.nilFn,.nilFunc,none,false,false⟩
def ti288:TI:=⟨.func #[122,3,3,3,239] #[] false,1,8,.nilFn,.nilFunc,none,false,false⟩
def ti289:TI:=⟨.func #[2,2] #[3] false,1,8,.nilFn,.nilFunc,none,false,false⟩
def ti290:TI:=⟨.func #[5] #[4] false,1,8,.nilFn,.nilFunc,none,false,false⟩
def ti291:TI:=⟨.func #[46,46] #[4] false,1,8,.nilFn,.nilFunc,none,false,false⟩
def ti292:TI:=⟨.func #[80,80,46] #[4] false,1,8,.nilFn,.nilFunc,none,false,false⟩
def ti293:TI:=⟨.func #[32,57] #[41] false,1,8,.nilFn,.nilFunc,none,false,false⟩
def ti294:TI:=⟨.slice 30,1,24,.nilS,.slice none 0 0,none,false,false⟩
def ti295:TI:=⟨.func #[32,3] #[294] false,1,8,.nilFn,.nilFunc,none,false,false⟩
def ti296:TI:=⟨.func #[60,30] #[4] false,1,8,.nilFn,.nilFunc,none,false,false⟩
def ti297:TI:=⟨.func #[122,34] #[122] false,1,8,.nilFn,.nilFunc,none,false,false⟩
def ti298:TI:=⟨.func #[30] #[34] false,1,8,.nilFn,.nilFunc,none,false,false⟩
def ti299:TI:=⟨.slice 66,1,24,.nilS,.slice none 0 0,none,false,false⟩
def ti300:TI:=⟨.func #[66,3] #[66] false,1,8,.nilFn,.nilFunc,none,false,false⟩
def ti301:TI:=⟨.int .u64,1,8,.int .u64 0,.int .u64 0,some (.int .u64),false,false⟩
def ti302:TI:=⟨.func #[3] #[172] false,1,8,.nilFn,.nilFunc,none,false,false⟩
def ti303:TI:=⟨.func #[] #[262] false,1,8,.nilFn,.nilFunc,none,false,false⟩
def ti304:TI:=⟨.func #[34,3,305] #[3] false,1,8,.nilFn,.nilFunc,none,false,false⟩
def ti305:TI:=⟨.pointer 3,1,8,.nilP,.pointer none,none,false,false⟩
def ti306:TI:=⟨.func #[34,3,3,3,305] #[3] false,1,8,.nilFn,.nilFunc,none,false,false⟩
def ti307:TI:=⟨.func #[50,3,3,219] #[] false,1,8,.nilFn,.nilFunc,none,false,false⟩
def ti308:TI:=⟨.func #[50,3,3,3,219] #[] false,1,8,.nilFn,.nilFunc,none,false,false⟩
def ti309:TI:=⟨.func #[50,3,3] #[] false,1,8,.nilFn,.nilFunc,none,false,false⟩
def ti310:TI:=⟨.func #[50,3,3] #[3,254] false,1,8,.nilFn,.nilFunc,none,false,false⟩
def ti311:TI:=⟨.func #[50,3,3] #[4] false,1,8,.nilFn,.nilFunc,none,false,false⟩
def ti312:TI:=⟨.func #[3,3] #[4] false,1,8,.nilFn,.nilFunc,none,false,false⟩
def ti313:TI:=⟨.func #[50,3,3,3] #[3] false,1,8,.nilFn,.nilFunc,none,false,false⟩
def ti314:TI:=⟨.func #[50,3,3,3] #[3,4] false,1,8,.nilFn,.nilFunc,none,false,false⟩
def ti315:TI:=⟨.func #[78,268] #[3] false,1,8,.nilFn,.nilFunc,none,false,false⟩
def ti316:TI:=⟨.func #[3,3] #[210] false,1,8,.nilFn,.nilFunc,none,false,false⟩
def ti317:TI:=⟨.func #[58,274] #[3] false,1,8,.nilFn,.nilFunc,none,false,false⟩
def ti318:TI:=⟨.func #[53,276] #[3] false,1,8,.nilFn,.nilFunc,none,false,false⟩
def ti319:TI:=⟨.func #[80,80,50] #[3] false,1,8,.nilFn,.nilFunc,none,false,false⟩
def ti320:TI:=⟨.func #[30,58] #[4] false,1,8,.nilFn,.nilFunc,none,false,false⟩
def ti321:TI:=⟨.func #[30,189] #[4] false,1,8,.nilFn,.nilFunc,none,false,false⟩
def ti322:TI:=⟨.func #[30] #[30] false,1,8,.nilFn,.nilFunc,none,false,false⟩
def ti323:TI:=⟨.func #[122,3,3,239] #[] false,1,8,.nilFn,.nilFunc,none,false,false⟩
def ti324:TI:=⟨.func #[122,3,3,239] #[3,254] false,1,8,.nilFn,.nilFunc,none,false,false⟩
def ti325:TI:=⟨.func #[122,3,3,239] #[4] false,1,8,.nilFn,.nilFunc,none,false,false⟩
def ti326:TI:=⟨.func #[122,3,3,3,239] #[3] false,1,8,.nilFn,.nilFunc,none,false,false⟩
def ti327:TI:=⟨.func #[122,3,3,3,239] #[3,4] false,1,8,.nilFn,.nilFunc,none,false,false⟩
def ti328:TI:=⟨.func #[78,78] #[4] false,1,8,.nilFn,.nilFunc,none,false,false⟩
def ti329:TI:=⟨.func #[80,46] #[78] false,1,8,.nilFn,.nilFunc,none,false,false⟩
def ti330:TI:=⟨.func #[200,202] #[4] false,1,8,.nilFn,.nilFunc,none,false,false⟩
def ti331:TI:=⟨.func #[200,200] #[3] false,1,8,.nilFn,.nilFunc,none,false,false⟩
def ti332:TI:=⟨.func #[213,30] #[4] false,1,8,.nilFn,.nilFunc,none,false,false⟩
def ti333:TI:=⟨.pointer 301,1,8,.nilP,.pointer none,none,false,false⟩
def ti335:TI:=⟨.func #[34,3,3,305] #[3,3] false,1,8,.nilFn,.nilFunc,none,false,false⟩
def ti336:TI:=⟨.func #[50,3,305] #[3] false,1,8,.nilFn,.nilFunc,none,false,false⟩
def ti337:TI:=⟨.func #[50,3,3,3,305] #[3] false,1,8,.nilFn,.nilFunc,none,false,false⟩
def ti338:TI:=⟨.array 32 5,32,32,.agg [.int .u8 0,.int .u8 0,.int .u8 0,.int .u8 0,.int .u8 0,.int .u8 0,.int .u8 0,.int .u8 0,.int .u8 0,.int .u8 0,.int .u8 0,.int .u8 0,.int .u8 0,.int .u8 0,.int .u8 0,.int .u8 0,.int .u8 0,.int .u8 0,.int .u8 0,.int .u8 0,.int .u8 0,.int .u8 0,.int .u8 0,.int .u8 0,.int .u8 0,.int .u8 0,.int .u8 0,.int .u8 0,.int .u8 0,.int .u8 0,.int .u8 0,.int .u8 0],.agg #[.int .u8 0,.int .u8 0,.int .u8 0,.int .u8 0,.int .u8 0,.int .u8 0,.int .u8 0,.int .u8 0,.int .u8 0,.int .u8 0,.int .u8 0,.int .u8 0,.int .u8 0,.int .u8 0,.int .u8 0,.int .u8 0,.int .u8 0,.int .u8 0,.int .u8 0,.int .u8 0,.int .u8 0,.int .u8 0,.int .u8 0,.int .u8 0,.int .u8 0,.int .u8 0,.int .u8 0,.int .u8 0,.int .u8 0,.int .u8 0,.int .u8 0,.int .u8 0],none,true,false⟩
def ti339:TI:=⟨.func #[30,210] #[200] false,1,8,.nilFn,.nilFunc,none,false,false⟩
def ti340:TI:=⟨.func #[122,3,305,239] #[3] false,1,8,.nilFn,.nilFunc,none,false,false⟩
def ti341:TI:=⟨.func #[122,3,3,3,305,239] #[3] false,1,8,.nilFn,.nilFunc,none,false,false⟩
def ti342:TI:=⟨.func #[78,78] #[3] false,1,8,.nilFn,.nilFunc,none,false,false⟩
def ti343:TI:=⟨.func #[9,9] #[3] false,1,8,.nilFn,.nilFunc,none,false,false⟩
def ti344:TI:=⟨.func #[210,30] #[200] false,1,8,.nilFn,.nilFunc,none,false,false⟩
def ti345:TI:=⟨.func #[50,3,3,305] #[3,3] false,1,8,.nilFn,.nilFunc,none,false,false⟩
def ti346:TI:=⟨.func #[50] #[3] true,1,8,.nilFn,.nilFunc,none,false,false⟩
def ti347:TI:=⟨.func #[122,3,3,305,239] #[3,3] false,1,8,.nilFn,.nilFunc,none,false,false⟩
def ti348:TI:=⟨.func #[] #[9] false,1,8,.nilFn,.nilFunc,none,false,false⟩
def ti349:TI:=⟨.struct #[⟨ "_interface",17,0,false, "", "runtime",0⟩,⟨ "concrete",17,1,false, "", "runtime",8⟩,⟨ "asserted",17,2,false, "", "runtime",16⟩,⟨ "missingMethod",9,3,false, "", "runtime",24⟩],4,40,.agg [.nilP,.nilP,.nilP,.str ByteArray.empty],.agg #[.pointer none,.pointer none,.pointer none,.string ByteArray.empty],none,false,false⟩
def ti350:TI:=⟨.struct #[⟨ "_interface",17,0,false, "", "runtime",0⟩,⟨ "concrete",17,1,false, "", "runtime",8⟩,⟨ "asserted",17,2,false, "", "runtime",16⟩,⟨ "missingMethod",9,3,false, "", "runtime",24⟩],4,40,.agg [.nilP,.nilP,.nilP,.str ByteArray.empty],.agg #[.pointer none,.pointer none,.pointer none,.string ByteArray.empty],none,false,false⟩
def ti351:TI:=⟨.array 0 16,0,0,.agg [],.agg #[],none,true,false⟩
def ti352:TI:=⟨.struct #[⟨ "_",351,0,false, "", "runtime",0⟩],0,0,.agg [],.agg #[],none,false,false⟩
def ti353:TI:=⟨.struct #[⟨ "_",351,0,false, "", "runtime",0⟩],0,0,.agg [],.agg #[],none,false,false⟩
def ti354:TI:=⟨.int .u8,1,1,.int .u8 0,.int .u8 0,some (.int .u8),false,false⟩
def ti355:TI:=⟨.int .u8,1,1,.int .u8 0,.int .u8 0,some (.int .u8),false,false⟩
def ti356:TI:=⟨.func #[362,362] #[4] false,1,8,.nilFn,.nilFunc,none,false,false⟩
def ti357:TI:=⟨.pointer 5,1,8,.nilP,.pointer none,none,false,false⟩
def ti358:TI:=⟨.int .i32,1,4,.int .i32 0,.int .i32 0,some (.int .i32),false,false⟩
def ti359:TI:=⟨.int .i32,1,4,.int .i32 0,.int .i32 0,some (.int .i32),false,false⟩
def ti360:TI:=⟨.struct #[⟨ "Size_",12,0,false, "", "",0⟩,⟨ "PtrBytes",12,1,false, "", "",8⟩,⟨ "Hash",45,2,false, "", "",16⟩,⟨ "TFlag",354,3,false, "", "",20⟩,⟨ "Align_",5,4,false, "", "",21⟩,⟨ "FieldAlign_",5,5,false, "", "",22⟩,⟨ "Kind_",355,6,false, "", "",23⟩,⟨ "Equal",356,7,false, "", "",24⟩,⟨ "GCData",357,8,false, "", "",32⟩,⟨ "Str",358,9,false, "", "",40⟩,⟨ "PtrToThis",359,10,false, "", "",44⟩],11,48,.agg [.int .u64 0,.int .u64 0,.int .u32 0,.int .u8 0,.int .u8 0,.int .u8 0,.int .u8 0,.nilFn,.nilP,.int .i32 0,.int .i32 0],.agg #[.int .u64 0,.int .u64 0,.int .u32 0,.int .u8 0,.int .u8 0,.int .u8 0,.int .u8 0,.nilFunc,.pointer none,.int .i32 0,.int .i32 0],none,false,false⟩
def ti361:TI:=⟨.struct #[⟨ "Size_",12,0,false, "", "",0⟩,⟨ "PtrBytes",12,1,false, "", "",8⟩,⟨ "Hash",45,2,false, "", "",16⟩,⟨ "TFlag",354,3,false, "", "",20⟩,⟨ "Align_",5,4,false, "", "",21⟩,⟨ "FieldAlign_",5,5,false, "", "",22⟩,⟨ "Kind_",355,6,false, "", "",23⟩,⟨ "Equal",356,7,false, "", "",24⟩,⟨ "GCData",357,8,false, "", "",32⟩,⟨ "Str",358,9,false, "", "",40⟩,⟨ "PtrToThis",359,10,false, "", "",44⟩],11,48,.agg [.int .u64 0,.int .u64 0,.int .u32 0,.int .u8 0,.int .u8 0,.int .u8 0,.int .u8 0,.nilFn,.nilP,.int .i32 0,.int .i32 0],.agg #[.int .u64 0,.int .u64 0,.int .u32 0,.int .u8 0,.int .u8 0,.int .u8 0,.int .u8 0,.nilFunc,.pointer none,.int .i32 0,.int .i32 0],none,false,false⟩
def tys:List (Option TI):=[none,some ti1,some ti2,some ti3,some ti4,some ti5,some ti6,some ti7,some ti8,some ti9,some ti10,some ti11,some ti12,some ti13,some ti14,some ti15,some ti16,some ti17,some ti18,some ti19,none,some ti21,some ti22,some ti23,some ti24,some ti25,some ti26,some ti27,some ti28,some ti29,some ti30,some ti31,some ti32,some ti33,some ti34,none,some ti36,some ti37,some ti38,some ti39,some ti40,some ti41,none,some ti43,some ti44,some ti45,some ti46,some ti47,some ti48,some ti49,some ti50,some ti51,some ti52,some ti53,some ti54,some ti55,some ti56,some ti57,some ti58,some ti59,some ti60,some ti61,some ti62,some ti63,some ti64,some ti65,some ti66,some ti67,some ti68,none,some ti70,none,some ti72,some ti73,some ti74,some ti75,some ti76,some ti77,some ti78,some ti79,some ti80,some ti81,some ti82,some ti83,some ti84,some ti85,some ti86,some ti87,some ti88,some ti89,some ti90,some ti91,some ti92,some ti93,some ti94,some ti95,some ti96,some ti97,some ti98,some ti99,some ti100,none,some ti102,some ti103,some ti104,some ti105,none,some ti107,some ti108,some ti109,none,some ti111,some ti112,some ti113,none,some ti115,none,some ti117,none,some ti119,some ti120,some ti121,some ti122,some ti123,some ti124,none,some ti126,none,some ti128,some ti129,some ti130,none,some ti132,none,some ti134,some ti135,some ti136,none,some ti138,some ti139,none,some ti141,some ti142,some ti143,some ti144,some ti145,some ti146,some ti147,some ti148,some ti149,none,some ti151,some ti152,some ti153,some ti154,some ti155,none,some ti157,some ti158,some ti159,some ti160,some ti161,some ti162,some ti163,some ti164,some ti165,some ti166,none,some ti168,none,some ti170,some ti171,some ti172,some ti173,some ti174,some ti175,some ti176,some ti177,some ti178,some ti179,some ti180,some ti181,some ti182,some ti183,some ti184,some ti185,some ti186,some ti187,some ti188,some ti189,some ti190,some ti191,some ti192,some ti193,none,some ti195,some ti196,some ti197,some ti198,some ti199,some ti200,some ti201,some ti202,some ti203,some ti204,some ti205,some ti206,some ti207,some ti208,some ti209,some ti210,some ti211,some ti212,some ti213,some ti214,some ti215,none,some ti217,some ti218,some ti219,some ti220,some ti221,some ti222,some ti223,some ti224,some ti225,some ti226,some ti227,some ti228,some ti229,some ti230,some ti231,some ti232,some ti233,some ti234,some ti235,some ti236,some ti237,some ti238,some ti239,some ti240,some ti241,some ti242,some ti243,some ti244,some ti245,some ti246,some ti247,some ti248,some ti249,some ti250,some ti251,some ti252,some ti253,some ti254,none,some ti256,some ti257,some ti258,some ti259,some ti260,some ti261,some ti262,some ti263,some ti264,some ti265,some ti266,some ti267,some ti268,some ti269,some ti270,some ti271,some ti272,some ti273,some ti274,some ti275,some ti276,some ti277,some ti278,some ti279,some ti280,some ti281,some ti282,some ti283,some ti284,some ti285,some ti286,some ti287,some ti288,some ti289,some ti290,some ti291,some ti292,some ti293,some ti294,some ti295,some ti296,some ti297,some ti298,some ti299,some ti300,some ti301,some ti302,some ti303,some ti304,some ti305,some ti306,some ti307,some ti308,some ti309,some ti310,some ti311,some ti312,some ti313,some ti314,some ti315,some ti316,some ti317,some ti318,some ti319,some ti320,some ti321,some ti322,some ti323,some ti324,some ti325,some ti326,some ti327,some ti328,some ti329,some ti330,some ti331,some ti332,some ti333,none,some ti335,some ti336,some ti337,some ti338,some ti339,some ti340,some ti341,some ti342,some ti343,some ti344,some ti345,some ti346,some ti347,some ti348,some ti349,some ti350,some ti351,some ti352,some ti353,some ti354,some ti355,some ti356,some ti357,some ti358,some ti359,some ti360,some ti361]
def T:Ty:=fun t=>(tys[t]?).getD none
@[simp] theorem T_2:T 2=some ⟨.int .i64,1,8,.int .i64 0,.int .i64 0,some (.int .i64),false,false⟩:=rfl
@[simp] theorem T_3:T 3=some ⟨.int .i64,1,8,.int .i64 0,.int .i64 0,some (.int .i64),false,false⟩:=rfl
@[simp] theorem T_4:T 4=some ⟨.bool,1,1,.bool false,.bool false,some .bool,false,false⟩:=rfl
@[simp] theorem T_5:T 5=some ⟨.int .u8,1,1,.int .u8 0,.int .u8 0,some (.int .u8),false,false⟩:=rfl
@[simp] theorem T_9:T 9=some ⟨.string,1,16,.str ByteArray.empty,.string ByteArray.empty,some .str,false,false⟩:=rfl
@[simp] theorem T_22:T 22=some ⟨.slice 26,1,24,.nilS,.slice none 0 0,none,false,false⟩:=rfl
@[simp] theorem T_24:T 24=some ⟨.struct #[⟨ "Attrs",5,0,false, "", "",0⟩,⟨ "Gap",5,1,false, "", "",1⟩,⟨ "Rows",22,2,false, "", "",8⟩],3,32,.agg [.int .u8 0,.int .u8 0,.nilS],.agg #[.int .u8 0,.int .u8 0,.slice none 0 0],none,true,false⟩:=rfl
@[simp] theorem T_25:T 25=some ⟨.slice 100,1,24,.nilS,.slice none 0 0,none,false,false⟩:=rfl
@[simp] theorem T_26:T 26=some ⟨.slice 5,1,24,.nilS,.slice none 0 0,none,false,false⟩:=rfl
@[simp] theorem T_28:T 28=some ⟨.struct #[⟨ "T",24,0,false, "", "",0⟩,⟨ "Rules",25,3,false, "", "",32⟩,⟨ "Weights",26,4,false, "", "",56⟩],5,80,.agg [.int .u8 0,.int .u8 0,.nilS,.nilS,.nilS],.agg #[.int .u8 0,.int .u8 0,.slice none 0 0,.slice none 0 0,.slice none 0 0],none,true,false⟩:=rfl
@[simp] theorem T_29:T 29=some ⟨.slice 9,1,24,.nilS,.slice none 0 0,none,false,false⟩:=rfl
@[simp] theorem T_30:T 30=some ⟨.slice 80,1,24,.nilS,.slice none 0 0,none,false,false⟩:=rfl
@[simp] theorem T_32:T 32=some ⟨.struct #[⟨ "Name",9,0,false, "", "",0⟩,⟨ "Attrs",29,1,false, "", "",16⟩,⟨ "Rows",30,2,false, "", "",40⟩],3,64,.agg [.str ByteArray.empty,.nilS,.nilS],.agg #[.string ByteArray.empty,.slice none 0 0,.slice none 0 0],none,true,false⟩:=rfl
@[simp] theorem T_33:T 33=some ⟨.slice 62,1,24,.nilS,.slice none 0 0,none,false,false⟩:=rfl
@[simp] theorem T_34:T 34=some ⟨.slice 2,1,24,.nilS,.slice none 0 0,none,false,false⟩:=rfl
@[simp] theorem T_38:T 38=some ⟨.slice 50,1,24,.nilS,.slice none 0 0,none,false,false⟩:=rfl
@[simp] theorem T_40:T 40=some ⟨.struct #[⟨ "Weights",34,0,false, "", "",0⟩,⟨ "Edges",38,1,false, "", "",24⟩],2,48,.agg [.nilS,.nilS],.agg #[.slice none 0 0,.slice none 0 0],none,true,false⟩:=rfl
@[simp] theorem T_46:T 46=some ⟨.int .u32,1,4,.int .u32 0,.int .u32 0,some (.int .u32),false,false⟩:=rfl
@[simp] theorem T_48:T 48=some ⟨.struct #[⟨ "Lhs",46,0,false, "", "",0⟩,⟨ "Rhs",46,1,false, "", "",4⟩],2,8,.agg [.int .u32 0,.int .u32 0],.agg #[.int .u32 0,.int .u32 0],none,true,false⟩:=rfl
@[simp] theorem T_49:T 49=some ⟨.struct #[⟨ "Lhs",46,0,false, "", "",0⟩,⟨ "Rhs",46,1,false, "", "",4⟩],2,8,.agg [.int .u32 0,.int .u32 0],.agg #[.int .u32 0,.int .u32 0],none,true,false⟩:=rfl
@[simp] theorem T_50:T 50=some ⟨.slice 3,1,24,.nilS,.slice none 0 0,none,false,false⟩:=rfl
@[simp] theorem T_52:T 52=some ⟨.struct #[⟨ "From",9,0,false, "", "",0⟩,⟨ "Lhs",50,1,false, "", "",16⟩,⟨ "To",9,2,false, "", "",40⟩,⟨ "Rhs",50,3,false, "", "",56⟩],4,80,.agg [.str ByteArray.empty,.nilS,.str ByteArray.empty,.nilS],.agg #[.string ByteArray.empty,.slice none 0 0,.string ByteArray.empty,.slice none 0 0],none,true,false⟩:=rfl
@[simp] theorem T_53:T 53=some ⟨.slice 202,1,24,.nilS,.slice none 0 0,none,false,false⟩:=rfl
@[simp] theorem T_55:T 55=some ⟨.struct #[⟨ "Lhs",50,0,false, "", "",0⟩,⟨ "Rhs",3,1,false, "", "",24⟩,⟨ "Pattern",53,2,false, "", "",32⟩],3,56,.agg [.nilS,.int .i64 0,.nilS],.agg #[.slice none 0 0,.int .i64 0,.slice none 0 0],none,true,false⟩:=rfl
@[simp] theorem T_57:T 57=some ⟨.struct #[⟨ "Lhs",50,0,false, "", "",0⟩,⟨ "Rhs",50,1,false, "", "",24⟩],2,48,.agg [.nilS,.nilS],.agg #[.slice none 0 0,.slice none 0 0],none,true,false⟩:=rfl
@[simp] theorem T_58:T 58=some ⟨.slice 213,1,24,.nilS,.slice none 0 0,none,false,false⟩:=rfl
@[simp] theorem T_60:T 60=some ⟨.struct #[⟨ "Vars",3,0,false, "", "",0⟩,⟨ "Atoms",58,1,false, "", "",8⟩],2,32,.agg [.int .i64 0,.nilS],.agg #[.int .i64 0,.slice none 0 0],none,true,false⟩:=rfl
@[simp] theorem T_62:T 62=some ⟨.struct #[⟨ "Name",9,0,false, "", "",0⟩,⟨ "Table",9,1,false, "", "",16⟩,⟨ "Kind",3,2,false, "", "",32⟩,⟨ "FD",48,3,false, "", "",40⟩,⟨ "MVD",49,5,false, "", "",48⟩,⟨ "IND",52,7,false, "", "",56⟩,⟨ "CFD",55,11,false, "", "",136⟩,⟨ "OD",57,14,false, "", "",192⟩,⟨ "Denial",60,16,false, "", "",240⟩],18,272,.agg [.str ByteArray.empty,.str ByteArray.empty,.int .i64 0,.int .u32 0,.int .u32 0,.int .u32 0,.int .u32 0,.str ByteArray.empty,.nilS,.str ByteArray.empty,.nilS,.nilS,.int .i64 0,.nilS,.nilS,.nilS,.int .i64 0,.nilS],.agg #[.string ByteArray.empty,.string ByteArray.empty,.int .i64 0,.int .u32 0,.int .u32 0,.int .u32 0,.int .u32 0,.string ByteArray.empty,.slice none 0 0,.string ByteArray.empty,.slice none 0 0,.slice none 0 0,.int .i64 0,.slice none 0 0,.slice none 0 0,.slice none 0 0,.int .i64 0,.slice none 0 0],none,true,false⟩:=rfl
@[simp] theorem T_78:T 78=some ⟨.slice 200,1,24,.nilS,.slice none 0 0,none,false,false⟩:=rfl
@[simp] theorem T_80:T 80=some ⟨.struct #[⟨ "ID",2,0,false, "", "",0⟩,⟨ "Values",78,1,false, "", "",8⟩],2,32,.agg [.int .i64 0,.nilS],.agg #[.int .i64 0,.slice none 0 0],none,true,false⟩:=rfl
@[simp] theorem T_91:T 91=some ⟨.struct #[⟨ "L",5,0,false, "", "",0⟩,⟨ "R",5,1,false, "", "",1⟩],2,2,.agg [.int .u8 0,.int .u8 0],.agg #[.int .u8 0,.int .u8 0],none,true,false⟩:=rfl
@[simp] theorem T_93:T 93=some ⟨.struct #[⟨ "Lhs",5,0,false, "", "",0⟩,⟨ "Rhs",5,1,false, "", "",1⟩,⟨ "Codes",26,2,false, "", "",8⟩],3,32,.agg [.int .u8 0,.int .u8 0,.nilS],.agg #[.int .u8 0,.int .u8 0,.slice none 0 0],none,true,false⟩:=rfl
@[simp] theorem T_95:T 95=some ⟨.struct #[⟨ "X",26,0,false, "", "",0⟩,⟨ "Y",26,1,false, "", "",24⟩],2,48,.agg [.nilS,.nilS],.agg #[.slice none 0 0,.slice none 0 0],none,true,false⟩:=rfl
@[simp] theorem T_96:T 96=some ⟨.slice 208,1,24,.nilS,.slice none 0 0,none,false,false⟩:=rfl
@[simp] theorem T_98:T 98=some ⟨.struct #[⟨ "Vars",5,0,false, "", "",0⟩,⟨ "Atoms",96,1,false, "", "",8⟩],2,32,.agg [.int .u8 0,.nilS],.agg #[.int .u8 0,.slice none 0 0],none,true,false⟩:=rfl
@[simp] theorem T_100:T 100=some ⟨.struct #[⟨ "Kind",5,0,false, "", "",0⟩,⟨ "F",91,1,false, "", "",1⟩,⟨ "C",93,3,false, "", "",8⟩,⟨ "O",95,6,false, "", "",40⟩,⟨ "N",98,8,false, "", "",88⟩],10,120,.agg [.int .u8 0,.int .u8 0,.int .u8 0,.int .u8 0,.int .u8 0,.nilS,.nilS,.nilS,.int .u8 0,.nilS],.agg #[.int .u8 0,.int .u8 0,.int .u8 0,.int .u8 0,.int .u8 0,.slice none 0 0,.slice none 0 0,.slice none 0 0,.int .u8 0,.slice none 0 0],none,true,false⟩:=rfl
@[simp] theorem T_122:T 122=some ⟨.slice 34,1,24,.nilS,.slice none 0 0,none,false,false⟩:=rfl
@[simp] theorem T_124:T 124=some ⟨.struct #[⟨ "Vertices",34,0,false, "", "",0⟩,⟨ "Edges",122,1,false, "", "",24⟩],2,48,.agg [.nilS,.nilS],.agg #[.slice none 0 0,.slice none 0 0],none,true,false⟩:=rfl
@[simp] theorem T_152:T 152=some ⟨.slice 48,1,24,.nilS,.slice none 0 0,none,false,false⟩:=rfl
@[simp] theorem T_154:T 154=some ⟨.slice 91,1,24,.nilS,.slice none 0 0,none,false,false⟩:=rfl
@[simp] theorem T_166:T 166=some ⟨.slice 60,1,24,.nilS,.slice none 0 0,none,false,false⟩:=rfl
@[simp] theorem T_172:T 172=some ⟨.int .u64,1,8,.int .u64 0,.int .u64 0,some (.int .u64),false,false⟩:=rfl
@[simp] theorem T_200:T 200=some ⟨.struct #[⟨ "Kind",3,0,false, "", "",0⟩,⟨ "Num",2,1,false, "", "",8⟩,⟨ "Str",9,2,false, "", "",16⟩],3,32,.agg [.int .i64 0,.int .i64 0,.str ByteArray.empty],.agg #[.int .i64 0,.int .i64 0,.string ByteArray.empty],none,true,false⟩:=rfl
@[simp] theorem T_202:T 202=some ⟨.struct #[⟨ "Any",4,0,false, "", "",0⟩,⟨ "Value",200,1,false, "", "",8⟩],4,40,.agg [.bool false,.int .i64 0,.int .i64 0,.str ByteArray.empty],.agg #[.bool false,.int .i64 0,.int .i64 0,.string ByteArray.empty],none,true,false⟩:=rfl
@[simp] theorem T_206:T 206=some ⟨.struct #[⟨ "Var",5,0,false, "", "",0⟩,⟨ "Code",5,1,false, "", "",1⟩],2,2,.agg [.int .u8 0,.int .u8 0],.agg #[.int .u8 0,.int .u8 0],none,true,false⟩:=rfl
@[simp] theorem T_208:T 208=some ⟨.struct #[⟨ "Left",206,0,false, "", "",0⟩,⟨ "Op",5,2,false, "", "",2⟩,⟨ "Right",206,3,false, "", "",3⟩],5,5,.agg [.int .u8 0,.int .u8 0,.int .u8 0,.int .u8 0,.int .u8 0],.agg #[.int .u8 0,.int .u8 0,.int .u8 0,.int .u8 0,.int .u8 0],none,true,false⟩:=rfl
@[simp] theorem T_210:T 210=some ⟨.struct #[⟨ "Var",3,0,false, "", "",0⟩,⟨ "Attr",3,1,false, "", "",8⟩,⟨ "Value",200,2,false, "", "",16⟩],5,48,.agg [.int .i64 0,.int .i64 0,.int .i64 0,.int .i64 0,.str ByteArray.empty],.agg #[.int .i64 0,.int .i64 0,.int .i64 0,.int .i64 0,.string ByteArray.empty],none,true,false⟩:=rfl
@[simp] theorem T_213:T 213=some ⟨.struct #[⟨ "Left",210,0,false, "", "",0⟩,⟨ "Op",3,5,false, "", "",48⟩,⟨ "Right",210,6,false, "", "",56⟩],11,104,.agg [.int .i64 0,.int .i64 0,.int .i64 0,.int .i64 0,.str ByteArray.empty,.int .i64 0,.int .i64 0,.int .i64 0,.int .i64 0,.int .i64 0,.str ByteArray.empty],.agg #[.int .i64 0,.int .i64 0,.int .i64 0,.int .i64 0,.string ByteArray.empty,.int .i64 0,.int .i64 0,.int .i64 0,.int .i64 0,.int .i64 0,.string ByteArray.empty],none,true,false⟩:=rfl
@[simp] theorem T_234:T 234=some ⟨.map 235 4,1,8,.nilM,.map none,none,false,false⟩:=rfl
@[simp] theorem T_235:T 235=some ⟨.array 3 2,3,24,.agg [.int .i64 0,.int .i64 0,.int .i64 0],.agg #[.int .i64 0,.int .i64 0,.int .i64 0],some (.arr 3),true,false⟩:=rfl
@[simp] theorem T_294:T 294=some ⟨.slice 30,1,24,.nilS,.slice none 0 0,none,false,false⟩:=rfl
theorem trN {t:Nat} {i:TI} (h1:Tryz.prog.underlying t=some i.desc) (h2:(Tryz.prog.info? t).map (fun j=>(j.size,j.bytes,j.zero))=some (i.size,i.bytes,some i.zval):=by kernel_rfl) (h3:ofVal i.zval=some i.zero:=by kernel_rfl) (h4:i.zero.cells.length=i.size:=by kernel_rfl) (h5:i.kk=none:=by rfl) (h6:i.eq=false:=by rfl):TRow Tryz.prog t (some i):=fun j h=>by cases h; exact ⟨h1,h2,h3,h4,fun k hk=>(by rw [h5] at hk; cases hk),fun he=>(by rw [h6] at he; cases he)⟩
theorem tr1:TRow Tryz.prog 1 (some ti1):=trN Tryz.underlying1
theorem tr2:TRow Tryz.prog 2 (some ti2):=fun i h=>by cases h; exact ⟨Tryz.underlying2,by kernel_rfl,by kernel_rfl,by kernel_rfl,(fun _ h=>by cases h; exact int_law Tryz.underlying2),(fun h=>by cases h)⟩
theorem tr3:TRow Tryz.prog 3 (some ti3):=fun i h=>by cases h; exact ⟨Tryz.underlying3,by kernel_rfl,by kernel_rfl,by kernel_rfl,(fun _ h=>by cases h; exact int_law Tryz.underlying3),(fun h=>by cases h)⟩
theorem tr4:TRow Tryz.prog 4 (some ti4):=fun i h=>by cases h; exact ⟨Tryz.underlying4,by kernel_rfl,by kernel_rfl,by kernel_rfl,(fun _ h=>by cases h; exact bool_law Tryz.underlying4),(fun h=>by cases h)⟩
theorem tr5:TRow Tryz.prog 5 (some ti5):=fun i h=>by cases h; exact ⟨Tryz.underlying5,by kernel_rfl,by kernel_rfl,by kernel_rfl,(fun _ h=>by cases h; exact int_law Tryz.underlying5),(fun h=>by cases h)⟩
theorem tr6:TRow Tryz.prog 6 (some ti6):=fun i h=>by cases h; exact ⟨Tryz.underlying6,by kernel_rfl,by kernel_rfl,by kernel_rfl,(fun _ h=>by cases h; exact int_law Tryz.underlying6),(fun h=>by cases h)⟩
theorem tr7:TRow Tryz.prog 7 (some ti7):=fun i h=>by cases h; exact ⟨Tryz.underlying7,by kernel_rfl,by kernel_rfl,by kernel_rfl,(fun _ h=>by cases h),(fun _=>⟨by kernel_rfl,by kernel_rfl⟩)⟩
theorem tr8:TRow Tryz.prog 8 (some ti8):=fun i h=>by cases h; exact ⟨Tryz.underlying8,by kernel_rfl,by kernel_rfl,by kernel_rfl,(fun _ h=>by cases h),(fun _=>⟨by kernel_rfl,by kernel_rfl⟩)⟩
theorem tr9:TRow Tryz.prog 9 (some ti9):=fun i h=>by cases h; exact ⟨Tryz.underlying9,by kernel_rfl,by kernel_rfl,by kernel_rfl,(fun _ h=>by cases h; exact str_law Tryz.underlying9),(fun h=>by cases h)⟩
theorem tr10:TRow Tryz.prog 10 (some ti10):=fun i h=>by cases h; exact ⟨Tryz.underlying10,by kernel_rfl,by kernel_rfl,by kernel_rfl,(fun _ h=>by cases h; exact str_law Tryz.underlying10),(fun h=>by cases h)⟩
theorem tr11:TRow Tryz.prog 11 (some ti11):=fun i h=>by cases h; exact ⟨Tryz.underlying11,by kernel_rfl,by kernel_rfl,by kernel_rfl,(fun _ h=>by cases h; exact str_law Tryz.underlying11),(fun h=>by cases h)⟩
theorem tr12:TRow Tryz.prog 12 (some ti12):=fun i h=>by cases h; exact ⟨Tryz.underlying12,by kernel_rfl,by kernel_rfl,by kernel_rfl,(fun _ h=>by cases h; exact int_law Tryz.underlying12),(fun h=>by cases h)⟩
theorem tr13:TRow Tryz.prog 13 (some ti13):=trN Tryz.underlying13
theorem tr14:TRow Tryz.prog 14 (some ti14):=trN Tryz.underlying14
theorem tr15:TRow Tryz.prog 15 (some ti15):=trN Tryz.underlying15
theorem tr16:TRow Tryz.prog 16 (some ti16):=trN Tryz.underlying16
theorem tr17:TRow Tryz.prog 17 (some ti17):=trN Tryz.underlying17
theorem tr18:TRow Tryz.prog 18 (some ti18):=trN Tryz.underlying18
theorem tr19:TRow Tryz.prog 19 (some ti19):=trN Tryz.underlying19
theorem tr21:TRow Tryz.prog 21 (some ti21):=fun i h=>by cases h; exact ⟨Tryz.underlying21,by kernel_rfl,by kernel_rfl,by kernel_rfl,(fun _ h=>by cases h; exact int_law Tryz.underlying21),(fun h=>by cases h)⟩
theorem tr22:TRow Tryz.prog 22 (some ti22):=trN Tryz.underlying22
theorem tr23:TRow Tryz.prog 23 (some ti23):=fun i h=>by cases h; exact ⟨Tryz.underlying23,by kernel_rfl,by kernel_rfl,by kernel_rfl,(fun _ h=>by cases h),(fun _=>⟨by kernel_rfl,by kernel_rfl⟩)⟩
theorem tr24:TRow Tryz.prog 24 (some ti24):=fun i h=>by cases h; exact ⟨Tryz.underlying24,by kernel_rfl,by kernel_rfl,by kernel_rfl,(fun _ h=>by cases h),(fun _=>⟨by kernel_rfl,by kernel_rfl⟩)⟩
theorem tr25:TRow Tryz.prog 25 (some ti25):=trN Tryz.underlying25
theorem tr26:TRow Tryz.prog 26 (some ti26):=trN Tryz.underlying26
theorem tr27:TRow Tryz.prog 27 (some ti27):=fun i h=>by cases h; exact ⟨Tryz.underlying27,by kernel_rfl,by kernel_rfl,by kernel_rfl,(fun _ h=>by cases h),(fun _=>⟨by kernel_rfl,by kernel_rfl⟩)⟩
theorem tr28:TRow Tryz.prog 28 (some ti28):=fun i h=>by cases h; exact ⟨Tryz.underlying28,by kernel_rfl,by kernel_rfl,by kernel_rfl,(fun _ h=>by cases h),(fun _=>⟨by kernel_rfl,by kernel_rfl⟩)⟩
theorem tr29:TRow Tryz.prog 29 (some ti29):=trN Tryz.underlying29
theorem tr30:TRow Tryz.prog 30 (some ti30):=trN Tryz.underlying30
theorem tr31:TRow Tryz.prog 31 (some ti31):=fun i h=>by cases h; exact ⟨Tryz.underlying31,by kernel_rfl,by kernel_rfl,by kernel_rfl,(fun _ h=>by cases h),(fun _=>⟨by kernel_rfl,by kernel_rfl⟩)⟩
theorem tr32:TRow Tryz.prog 32 (some ti32):=fun i h=>by cases h; exact ⟨Tryz.underlying32,by kernel_rfl,by kernel_rfl,by kernel_rfl,(fun _ h=>by cases h),(fun _=>⟨by kernel_rfl,by kernel_rfl⟩)⟩
theorem tr33:TRow Tryz.prog 33 (some ti33):=trN Tryz.underlying33
theorem tr34:TRow Tryz.prog 34 (some ti34):=trN Tryz.underlying34
theorem tr36:TRow Tryz.prog 36 (some ti36):=trN Tryz.underlying36
theorem tr37:TRow Tryz.prog 37 (some ti37):=trN Tryz.underlying37
theorem tr38:TRow Tryz.prog 38 (some ti38):=trN Tryz.underlying38
theorem tr39:TRow Tryz.prog 39 (some ti39):=fun i h=>by cases h; exact ⟨Tryz.underlying39,by kernel_rfl,by kernel_rfl,by kernel_rfl,(fun _ h=>by cases h),(fun _=>⟨by kernel_rfl,by kernel_rfl⟩)⟩
theorem tr40:TRow Tryz.prog 40 (some ti40):=fun i h=>by cases h; exact ⟨Tryz.underlying40,by kernel_rfl,by kernel_rfl,by kernel_rfl,(fun _ h=>by cases h),(fun _=>⟨by kernel_rfl,by kernel_rfl⟩)⟩
theorem tr41:TRow Tryz.prog 41 (some ti41):=fun i h=>by cases h; exact ⟨Tryz.underlying41,by kernel_rfl,by kernel_rfl,by kernel_rfl,(fun _ h=>by cases h; exact int_law Tryz.underlying41),(fun h=>by cases h)⟩
theorem tr43:TRow Tryz.prog 43 (some ti43):=trN Tryz.underlying43
theorem tr44:TRow Tryz.prog 44 (some ti44):=trN Tryz.underlying44
theorem tr45:TRow Tryz.prog 45 (some ti45):=fun i h=>by cases h; exact ⟨Tryz.underlying45,by kernel_rfl,by kernel_rfl,by kernel_rfl,(fun _ h=>by cases h; exact int_law Tryz.underlying45),(fun h=>by cases h)⟩
theorem tr46:TRow Tryz.prog 46 (some ti46):=fun i h=>by cases h; exact ⟨Tryz.underlying46,by kernel_rfl,by kernel_rfl,by kernel_rfl,(fun _ h=>by cases h; exact int_law Tryz.underlying46),(fun h=>by cases h)⟩
theorem tr47:TRow Tryz.prog 47 (some ti47):=fun i h=>by cases h; exact ⟨Tryz.underlying47,by kernel_rfl,by kernel_rfl,by kernel_rfl,(fun _ h=>by cases h),(fun _=>⟨by kernel_rfl,by kernel_rfl⟩)⟩
theorem tr48:TRow Tryz.prog 48 (some ti48):=fun i h=>by cases h; exact ⟨Tryz.underlying48,by kernel_rfl,by kernel_rfl,by kernel_rfl,(fun _ h=>by cases h),(fun _=>⟨by kernel_rfl,by kernel_rfl⟩)⟩
theorem tr49:TRow Tryz.prog 49 (some ti49):=fun i h=>by cases h; exact ⟨Tryz.underlying49,by kernel_rfl,by kernel_rfl,by kernel_rfl,(fun _ h=>by cases h),(fun _=>⟨by kernel_rfl,by kernel_rfl⟩)⟩
theorem tr50:TRow Tryz.prog 50 (some ti50):=trN Tryz.underlying50
theorem tr51:TRow Tryz.prog 51 (some ti51):=fun i h=>by cases h; exact ⟨Tryz.underlying51,by kernel_rfl,by kernel_rfl,by kernel_rfl,(fun _ h=>by cases h),(fun _=>⟨by kernel_rfl,by kernel_rfl⟩)⟩
theorem tr52:TRow Tryz.prog 52 (some ti52):=fun i h=>by cases h; exact ⟨Tryz.underlying52,by kernel_rfl,by kernel_rfl,by kernel_rfl,(fun _ h=>by cases h),(fun _=>⟨by kernel_rfl,by kernel_rfl⟩)⟩
theorem tr53:TRow Tryz.prog 53 (some ti53):=trN Tryz.underlying53
theorem tr54:TRow Tryz.prog 54 (some ti54):=fun i h=>by cases h; exact ⟨Tryz.underlying54,by kernel_rfl,by kernel_rfl,by kernel_rfl,(fun _ h=>by cases h),(fun _=>⟨by kernel_rfl,by kernel_rfl⟩)⟩
theorem tr55:TRow Tryz.prog 55 (some ti55):=fun i h=>by cases h; exact ⟨Tryz.underlying55,by kernel_rfl,by kernel_rfl,by kernel_rfl,(fun _ h=>by cases h),(fun _=>⟨by kernel_rfl,by kernel_rfl⟩)⟩
theorem tr56:TRow Tryz.prog 56 (some ti56):=fun i h=>by cases h; exact ⟨Tryz.underlying56,by kernel_rfl,by kernel_rfl,by kernel_rfl,(fun _ h=>by cases h),(fun _=>⟨by kernel_rfl,by kernel_rfl⟩)⟩
theorem tr57:TRow Tryz.prog 57 (some ti57):=fun i h=>by cases h; exact ⟨Tryz.underlying57,by kernel_rfl,by kernel_rfl,by kernel_rfl,(fun _ h=>by cases h),(fun _=>⟨by kernel_rfl,by kernel_rfl⟩)⟩
theorem tr58:TRow Tryz.prog 58 (some ti58):=trN Tryz.underlying58
theorem tr59:TRow Tryz.prog 59 (some ti59):=fun i h=>by cases h; exact ⟨Tryz.underlying59,by kernel_rfl,by kernel_rfl,by kernel_rfl,(fun _ h=>by cases h),(fun _=>⟨by kernel_rfl,by kernel_rfl⟩)⟩
theorem tr60:TRow Tryz.prog 60 (some ti60):=fun i h=>by cases h; exact ⟨Tryz.underlying60,by kernel_rfl,by kernel_rfl,by kernel_rfl,(fun _ h=>by cases h),(fun _=>⟨by kernel_rfl,by kernel_rfl⟩)⟩
theorem tr61:TRow Tryz.prog 61 (some ti61):=fun i h=>by cases h; exact ⟨Tryz.underlying61,by kernel_rfl,by kernel_rfl,by kernel_rfl,(fun _ h=>by cases h),(fun _=>⟨by kernel_rfl,by kernel_rfl⟩)⟩
theorem tr62:TRow Tryz.prog 62 (some ti62):=fun i h=>by cases h; exact ⟨Tryz.underlying62,by kernel_rfl,by kernel_rfl,by kernel_rfl,(fun _ h=>by cases h),(fun _=>⟨by kernel_rfl,by kernel_rfl⟩)⟩
theorem tr63:TRow Tryz.prog 63 (some ti63):=trN Tryz.underlying63
theorem tr64:TRow Tryz.prog 64 (some ti64):=trN Tryz.underlying64
theorem tr65:TRow Tryz.prog 65 (some ti65):=trN Tryz.underlying65
theorem tr66:TRow Tryz.prog 66 (some ti66):=trN Tryz.underlying66
theorem tr67:TRow Tryz.prog 67 (some ti67):=fun i h=>by cases h; exact ⟨Tryz.underlying67,by kernel_rfl,by kernel_rfl,by kernel_rfl,(fun _ h=>by cases h),(fun _=>⟨by kernel_rfl,by kernel_rfl⟩)⟩
theorem tr68:TRow Tryz.prog 68 (some ti68):=fun i h=>by cases h; exact ⟨Tryz.underlying68,by kernel_rfl,by kernel_rfl,by kernel_rfl,(fun _ h=>by cases h),(fun _=>⟨by kernel_rfl,by kernel_rfl⟩)⟩
theorem tr70:TRow Tryz.prog 70 (some ti70):=trN Tryz.underlying70
theorem tr72:TRow Tryz.prog 72 (some ti72):=trN Tryz.underlying72
theorem tr73:TRow Tryz.prog 73 (some ti73):=trN Tryz.underlying73
theorem tr74:TRow Tryz.prog 74 (some ti74):=trN Tryz.underlying74
theorem tr75:TRow Tryz.prog 75 (some ti75):=trN Tryz.underlying75
theorem tr76:TRow Tryz.prog 76 (some ti76):=fun i h=>by cases h; exact ⟨Tryz.underlying76,by kernel_rfl,by kernel_rfl,by kernel_rfl,(fun _ h=>by cases h),(fun _=>⟨by kernel_rfl,by kernel_rfl⟩)⟩
theorem tr77:TRow Tryz.prog 77 (some ti77):=fun i h=>by cases h; exact ⟨Tryz.underlying77,by kernel_rfl,by kernel_rfl,by kernel_rfl,(fun _ h=>by cases h),(fun _=>⟨by kernel_rfl,by kernel_rfl⟩)⟩
theorem tr78:TRow Tryz.prog 78 (some ti78):=trN Tryz.underlying78
theorem tr79:TRow Tryz.prog 79 (some ti79):=fun i h=>by cases h; exact ⟨Tryz.underlying79,by kernel_rfl,by kernel_rfl,by kernel_rfl,(fun _ h=>by cases h),(fun _=>⟨by kernel_rfl,by kernel_rfl⟩)⟩
theorem tr80:TRow Tryz.prog 80 (some ti80):=fun i h=>by cases h; exact ⟨Tryz.underlying80,by kernel_rfl,by kernel_rfl,by kernel_rfl,(fun _ h=>by cases h),(fun _=>⟨by kernel_rfl,by kernel_rfl⟩)⟩
theorem tr81:TRow Tryz.prog 81 (some ti81):=trN Tryz.underlying81
theorem tr82:TRow Tryz.prog 82 (some ti82):=trN Tryz.underlying82
theorem tr83:TRow Tryz.prog 83 (some ti83):=trN Tryz.underlying83
theorem tr84:TRow Tryz.prog 84 (some ti84):=fun i h=>by cases h; exact ⟨Tryz.underlying84,by kernel_rfl,by kernel_rfl,by kernel_rfl,(fun _ h=>by cases h; exact int_law Tryz.underlying84),(fun h=>by cases h)⟩
theorem tr85:TRow Tryz.prog 85 (some ti85):=fun i h=>by cases h; exact ⟨Tryz.underlying85,by kernel_rfl,by kernel_rfl,by kernel_rfl,(fun _ h=>by cases h),(fun _=>⟨by kernel_rfl,by kernel_rfl⟩)⟩
theorem tr86:TRow Tryz.prog 86 (some ti86):=fun i h=>by cases h; exact ⟨Tryz.underlying86,by kernel_rfl,by kernel_rfl,by kernel_rfl,(fun _ h=>by cases h),(fun _=>⟨by kernel_rfl,by kernel_rfl⟩)⟩
theorem tr87:TRow Tryz.prog 87 (some ti87):=fun i h=>by cases h; exact ⟨Tryz.underlying87,by kernel_rfl,by kernel_rfl,by kernel_rfl,(fun _ h=>by cases h),(fun _=>⟨by kernel_rfl,by kernel_rfl⟩)⟩
theorem tr88:TRow Tryz.prog 88 (some ti88):=trN Tryz.underlying88
theorem tr89:TRow Tryz.prog 89 (some ti89):=trN Tryz.underlying89
theorem tr90:TRow Tryz.prog 90 (some ti90):=fun i h=>by cases h; exact ⟨Tryz.underlying90,by kernel_rfl,by kernel_rfl,by kernel_rfl,(fun _ h=>by cases h),(fun _=>⟨by kernel_rfl,by kernel_rfl⟩)⟩
theorem tr91:TRow Tryz.prog 91 (some ti91):=fun i h=>by cases h; exact ⟨Tryz.underlying91,by kernel_rfl,by kernel_rfl,by kernel_rfl,(fun _ h=>by cases h),(fun _=>⟨by kernel_rfl,by kernel_rfl⟩)⟩
theorem tr92:TRow Tryz.prog 92 (some ti92):=fun i h=>by cases h; exact ⟨Tryz.underlying92,by kernel_rfl,by kernel_rfl,by kernel_rfl,(fun _ h=>by cases h),(fun _=>⟨by kernel_rfl,by kernel_rfl⟩)⟩
theorem tr93:TRow Tryz.prog 93 (some ti93):=fun i h=>by cases h; exact ⟨Tryz.underlying93,by kernel_rfl,by kernel_rfl,by kernel_rfl,(fun _ h=>by cases h),(fun _=>⟨by kernel_rfl,by kernel_rfl⟩)⟩
theorem tr94:TRow Tryz.prog 94 (some ti94):=fun i h=>by cases h; exact ⟨Tryz.underlying94,by kernel_rfl,by kernel_rfl,by kernel_rfl,(fun _ h=>by cases h),(fun _=>⟨by kernel_rfl,by kernel_rfl⟩)⟩
theorem tr95:TRow Tryz.prog 95 (some ti95):=fun i h=>by cases h; exact ⟨Tryz.underlying95,by kernel_rfl,by kernel_rfl,by kernel_rfl,(fun _ h=>by cases h),(fun _=>⟨by kernel_rfl,by kernel_rfl⟩)⟩
theorem tr96:TRow Tryz.prog 96 (some ti96):=trN Tryz.underlying96
theorem tr97:TRow Tryz.prog 97 (some ti97):=fun i h=>by cases h; exact ⟨Tryz.underlying97,by kernel_rfl,by kernel_rfl,by kernel_rfl,(fun _ h=>by cases h),(fun _=>⟨by kernel_rfl,by kernel_rfl⟩)⟩
theorem tr98:TRow Tryz.prog 98 (some ti98):=fun i h=>by cases h; exact ⟨Tryz.underlying98,by kernel_rfl,by kernel_rfl,by kernel_rfl,(fun _ h=>by cases h),(fun _=>⟨by kernel_rfl,by kernel_rfl⟩)⟩
theorem tr99:TRow Tryz.prog 99 (some ti99):=fun i h=>by cases h; exact ⟨Tryz.underlying99,by kernel_rfl,by kernel_rfl,by kernel_rfl,(fun _ h=>by cases h),(fun _=>⟨by kernel_rfl,by kernel_rfl⟩)⟩
theorem tr100:TRow Tryz.prog 100 (some ti100):=fun i h=>by cases h; exact ⟨Tryz.underlying100,by kernel_rfl,by kernel_rfl,by kernel_rfl,(fun _ h=>by cases h),(fun _=>⟨by kernel_rfl,by kernel_rfl⟩)⟩
theorem tr102:TRow Tryz.prog 102 (some ti102):=trN Tryz.underlying102
theorem tr103:TRow Tryz.prog 103 (some ti103):=trN Tryz.underlying103
theorem tr104:TRow Tryz.prog 104 (some ti104):=trN Tryz.underlying104
theorem tr105:TRow Tryz.prog 105 (some ti105):=trN Tryz.underlying105
theorem tr107:TRow Tryz.prog 107 (some ti107):=trN Tryz.underlying107
theorem tr108:TRow Tryz.prog 108 (some ti108):=fun i h=>by cases h; exact ⟨Tryz.underlying108,by kernel_rfl,by kernel_rfl,by kernel_rfl,(fun _ h=>by cases h),(fun _=>⟨by kernel_rfl,by kernel_rfl⟩)⟩
theorem tr109:TRow Tryz.prog 109 (some ti109):=trN Tryz.underlying109
theorem tr111:TRow Tryz.prog 111 (some ti111):=trN Tryz.underlying111
theorem tr112:TRow Tryz.prog 112 (some ti112):=trN Tryz.underlying112
theorem tr113:TRow Tryz.prog 113 (some ti113):=trN Tryz.underlying113
theorem tr115:TRow Tryz.prog 115 (some ti115):=trN Tryz.underlying115
theorem tr117:TRow Tryz.prog 117 (some ti117):=trN Tryz.underlying117
theorem tr119:TRow Tryz.prog 119 (some ti119):=trN Tryz.underlying119
theorem tr120:TRow Tryz.prog 120 (some ti120):=fun i h=>by cases h; exact ⟨Tryz.underlying120,by kernel_rfl,by kernel_rfl,by kernel_rfl,(fun _ h=>by cases h),(fun _=>⟨by kernel_rfl,by kernel_rfl⟩)⟩
theorem tr121:TRow Tryz.prog 121 (some ti121):=fun i h=>by cases h; exact ⟨Tryz.underlying121,by kernel_rfl,by kernel_rfl,by kernel_rfl,(fun _ h=>by cases h),(fun _=>⟨by kernel_rfl,by kernel_rfl⟩)⟩
theorem tr122:TRow Tryz.prog 122 (some ti122):=trN Tryz.underlying122
theorem tr123:TRow Tryz.prog 123 (some ti123):=fun i h=>by cases h; exact ⟨Tryz.underlying123,by kernel_rfl,by kernel_rfl,by kernel_rfl,(fun _ h=>by cases h),(fun _=>⟨by kernel_rfl,by kernel_rfl⟩)⟩
theorem tr124:TRow Tryz.prog 124 (some ti124):=fun i h=>by cases h; exact ⟨Tryz.underlying124,by kernel_rfl,by kernel_rfl,by kernel_rfl,(fun _ h=>by cases h),(fun _=>⟨by kernel_rfl,by kernel_rfl⟩)⟩
theorem tr126:TRow Tryz.prog 126 (some ti126):=trN Tryz.underlying126
theorem tr128:TRow Tryz.prog 128 (some ti128):=trN Tryz.underlying128
theorem tr129:TRow Tryz.prog 129 (some ti129):=trN Tryz.underlying129
theorem tr130:TRow Tryz.prog 130 (some ti130):=trN Tryz.underlying130
theorem tr132:TRow Tryz.prog 132 (some ti132):=trN Tryz.underlying132
theorem tr134:TRow Tryz.prog 134 (some ti134):=trN Tryz.underlying134
theorem tr135:TRow Tryz.prog 135 (some ti135):=trN Tryz.underlying135
theorem tr136:TRow Tryz.prog 136 (some ti136):=trN Tryz.underlying136
theorem tr138:TRow Tryz.prog 138 (some ti138):=trN Tryz.underlying138
theorem tr139:TRow Tryz.prog 139 (some ti139):=trN Tryz.underlying139
theorem tr141:TRow Tryz.prog 141 (some ti141):=trN Tryz.underlying141
theorem tr142:TRow Tryz.prog 142 (some ti142):=trN Tryz.underlying142
theorem tr143:TRow Tryz.prog 143 (some ti143):=trN Tryz.underlying143
theorem tr144:TRow Tryz.prog 144 (some ti144):=trN Tryz.underlying144
theorem tr145:TRow Tryz.prog 145 (some ti145):=trN Tryz.underlying145
theorem tr146:TRow Tryz.prog 146 (some ti146):=trN Tryz.underlying146
theorem tr147:TRow Tryz.prog 147 (some ti147):=trN Tryz.underlying147
theorem tr148:TRow Tryz.prog 148 (some ti148):=trN Tryz.underlying148
theorem tr149:TRow Tryz.prog 149 (some ti149):=trN Tryz.underlying149
theorem tr151:TRow Tryz.prog 151 (some ti151):=trN Tryz.underlying151
theorem tr152:TRow Tryz.prog 152 (some ti152):=trN Tryz.underlying152
theorem tr153:TRow Tryz.prog 153 (some ti153):=trN Tryz.underlying153
theorem tr154:TRow Tryz.prog 154 (some ti154):=trN Tryz.underlying154
theorem tr155:TRow Tryz.prog 155 (some ti155):=trN Tryz.underlying155
theorem tr157:TRow Tryz.prog 157 (some ti157):=trN Tryz.underlying157
theorem tr158:TRow Tryz.prog 158 (some ti158):=trN Tryz.underlying158
theorem tr159:TRow Tryz.prog 159 (some ti159):=trN Tryz.underlying159
theorem tr160:TRow Tryz.prog 160 (some ti160):=trN Tryz.underlying160
theorem tr161:TRow Tryz.prog 161 (some ti161):=trN Tryz.underlying161
theorem tr162:TRow Tryz.prog 162 (some ti162):=trN Tryz.underlying162
theorem tr163:TRow Tryz.prog 163 (some ti163):=trN Tryz.underlying163
theorem tr164:TRow Tryz.prog 164 (some ti164):=trN Tryz.underlying164
theorem tr165:TRow Tryz.prog 165 (some ti165):=trN Tryz.underlying165
theorem tr166:TRow Tryz.prog 166 (some ti166):=trN Tryz.underlying166
theorem tr168:TRow Tryz.prog 168 (some ti168):=trN Tryz.underlying168
theorem tr170:TRow Tryz.prog 170 (some ti170):=trN Tryz.underlying170
theorem tr171:TRow Tryz.prog 171 (some ti171):=trN Tryz.underlying171
theorem tr172:TRow Tryz.prog 172 (some ti172):=fun i h=>by cases h; exact ⟨Tryz.underlying172,by kernel_rfl,by kernel_rfl,by kernel_rfl,(fun _ h=>by cases h; exact int_law Tryz.underlying172),(fun h=>by cases h)⟩
theorem tr173:TRow Tryz.prog 173 (some ti173):=trN Tryz.underlying173
theorem tr174:TRow Tryz.prog 174 (some ti174):=trN Tryz.underlying174
theorem tr175:TRow Tryz.prog 175 (some ti175):=trN Tryz.underlying175
theorem tr176:TRow Tryz.prog 176 (some ti176):=fun i h=>by cases h; exact ⟨Tryz.underlying176,by kernel_rfl,by kernel_rfl,by kernel_rfl,(fun _ h=>by cases h),(fun _=>⟨by kernel_rfl,by kernel_rfl⟩)⟩
theorem tr177:TRow Tryz.prog 177 (some ti177):=fun i h=>by cases h; exact ⟨Tryz.underlying177,by kernel_rfl,by kernel_rfl,by kernel_rfl,(fun _ h=>by cases h),(fun _=>⟨by kernel_rfl,by kernel_rfl⟩)⟩
theorem tr178:TRow Tryz.prog 178 (some ti178):=trN Tryz.underlying178
theorem tr179:TRow Tryz.prog 179 (some ti179):=trN Tryz.underlying179
theorem tr180:TRow Tryz.prog 180 (some ti180):=trN Tryz.underlying180
theorem tr181:TRow Tryz.prog 181 (some ti181):=trN Tryz.underlying181
theorem tr182:TRow Tryz.prog 182 (some ti182):=trN Tryz.underlying182
theorem tr183:TRow Tryz.prog 183 (some ti183):=trN Tryz.underlying183
theorem tr184:TRow Tryz.prog 184 (some ti184):=trN Tryz.underlying184
theorem tr185:TRow Tryz.prog 185 (some ti185):=trN Tryz.underlying185
theorem tr186:TRow Tryz.prog 186 (some ti186):=fun i h=>by cases h; exact ⟨Tryz.underlying186,by kernel_rfl,by kernel_rfl,by kernel_rfl,(fun _ h=>by cases h),(fun _=>⟨by kernel_rfl,by kernel_rfl⟩)⟩
theorem tr187:TRow Tryz.prog 187 (some ti187):=fun i h=>by cases h; exact ⟨Tryz.underlying187,by kernel_rfl,by kernel_rfl,by kernel_rfl,(fun _ h=>by cases h),(fun _=>⟨by kernel_rfl,by kernel_rfl⟩)⟩
theorem tr188:TRow Tryz.prog 188 (some ti188):=trN Tryz.underlying188
theorem tr189:TRow Tryz.prog 189 (some ti189):=trN Tryz.underlying189
theorem tr190:TRow Tryz.prog 190 (some ti190):=trN Tryz.underlying190
theorem tr191:TRow Tryz.prog 191 (some ti191):=trN Tryz.underlying191
theorem tr192:TRow Tryz.prog 192 (some ti192):=trN Tryz.underlying192
theorem tr193:TRow Tryz.prog 193 (some ti193):=trN Tryz.underlying193
theorem tr195:TRow Tryz.prog 195 (some ti195):=trN Tryz.underlying195
theorem tr196:TRow Tryz.prog 196 (some ti196):=trN Tryz.underlying196
theorem tr197:TRow Tryz.prog 197 (some ti197):=trN Tryz.underlying197
theorem tr198:TRow Tryz.prog 198 (some ti198):=trN Tryz.underlying198
theorem tr199:TRow Tryz.prog 199 (some ti199):=fun i h=>by cases h; exact ⟨Tryz.underlying199,by kernel_rfl,by kernel_rfl,by kernel_rfl,(fun _ h=>by cases h),(fun _=>⟨by kernel_rfl,by kernel_rfl⟩)⟩
theorem tr200:TRow Tryz.prog 200 (some ti200):=fun i h=>by cases h; exact ⟨Tryz.underlying200,by kernel_rfl,by kernel_rfl,by kernel_rfl,(fun _ h=>by cases h),(fun _=>⟨by kernel_rfl,by kernel_rfl⟩)⟩
theorem tr201:TRow Tryz.prog 201 (some ti201):=fun i h=>by cases h; exact ⟨Tryz.underlying201,by kernel_rfl,by kernel_rfl,by kernel_rfl,(fun _ h=>by cases h),(fun _=>⟨by kernel_rfl,by kernel_rfl⟩)⟩
theorem tr202:TRow Tryz.prog 202 (some ti202):=fun i h=>by cases h; exact ⟨Tryz.underlying202,by kernel_rfl,by kernel_rfl,by kernel_rfl,(fun _ h=>by cases h),(fun _=>⟨by kernel_rfl,by kernel_rfl⟩)⟩
theorem tr203:TRow Tryz.prog 203 (some ti203):=trN Tryz.underlying203
theorem tr204:TRow Tryz.prog 204 (some ti204):=trN Tryz.underlying204
theorem tr205:TRow Tryz.prog 205 (some ti205):=fun i h=>by cases h; exact ⟨Tryz.underlying205,by kernel_rfl,by kernel_rfl,by kernel_rfl,(fun _ h=>by cases h),(fun _=>⟨by kernel_rfl,by kernel_rfl⟩)⟩
theorem tr206:TRow Tryz.prog 206 (some ti206):=fun i h=>by cases h; exact ⟨Tryz.underlying206,by kernel_rfl,by kernel_rfl,by kernel_rfl,(fun _ h=>by cases h),(fun _=>⟨by kernel_rfl,by kernel_rfl⟩)⟩
theorem tr207:TRow Tryz.prog 207 (some ti207):=fun i h=>by cases h; exact ⟨Tryz.underlying207,by kernel_rfl,by kernel_rfl,by kernel_rfl,(fun _ h=>by cases h),(fun _=>⟨by kernel_rfl,by kernel_rfl⟩)⟩
theorem tr208:TRow Tryz.prog 208 (some ti208):=fun i h=>by cases h; exact ⟨Tryz.underlying208,by kernel_rfl,by kernel_rfl,by kernel_rfl,(fun _ h=>by cases h),(fun _=>⟨by kernel_rfl,by kernel_rfl⟩)⟩
theorem tr209:TRow Tryz.prog 209 (some ti209):=fun i h=>by cases h; exact ⟨Tryz.underlying209,by kernel_rfl,by kernel_rfl,by kernel_rfl,(fun _ h=>by cases h),(fun _=>⟨by kernel_rfl,by kernel_rfl⟩)⟩
theorem tr210:TRow Tryz.prog 210 (some ti210):=fun i h=>by cases h; exact ⟨Tryz.underlying210,by kernel_rfl,by kernel_rfl,by kernel_rfl,(fun _ h=>by cases h),(fun _=>⟨by kernel_rfl,by kernel_rfl⟩)⟩
theorem tr211:TRow Tryz.prog 211 (some ti211):=trN Tryz.underlying211
theorem tr212:TRow Tryz.prog 212 (some ti212):=fun i h=>by cases h; exact ⟨Tryz.underlying212,by kernel_rfl,by kernel_rfl,by kernel_rfl,(fun _ h=>by cases h),(fun _=>⟨by kernel_rfl,by kernel_rfl⟩)⟩
theorem tr213:TRow Tryz.prog 213 (some ti213):=fun i h=>by cases h; exact ⟨Tryz.underlying213,by kernel_rfl,by kernel_rfl,by kernel_rfl,(fun _ h=>by cases h),(fun _=>⟨by kernel_rfl,by kernel_rfl⟩)⟩
theorem tr214:TRow Tryz.prog 214 (some ti214):=trN Tryz.underlying214
theorem tr215:TRow Tryz.prog 215 (some ti215):=trN Tryz.underlying215
theorem tr217:TRow Tryz.prog 217 (some ti217):=trN Tryz.underlying217
theorem tr218:TRow Tryz.prog 218 (some ti218):=trN Tryz.underlying218
theorem tr219:TRow Tryz.prog 219 (some ti219):=trN Tryz.underlying219
theorem tr220:TRow Tryz.prog 220 (some ti220):=trN Tryz.underlying220
theorem tr221:TRow Tryz.prog 221 (some ti221):=trN Tryz.underlying221
theorem tr222:TRow Tryz.prog 222 (some ti222):=trN Tryz.underlying222
theorem tr223:TRow Tryz.prog 223 (some ti223):=trN Tryz.underlying223
theorem tr224:TRow Tryz.prog 224 (some ti224):=trN Tryz.underlying224
theorem tr225:TRow Tryz.prog 225 (some ti225):=trN Tryz.underlying225
theorem tr226:TRow Tryz.prog 226 (some ti226):=trN Tryz.underlying226
theorem tr227:TRow Tryz.prog 227 (some ti227):=trN Tryz.underlying227
theorem tr228:TRow Tryz.prog 228 (some ti228):=trN Tryz.underlying228
theorem tr229:TRow Tryz.prog 229 (some ti229):=trN Tryz.underlying229
theorem tr230:TRow Tryz.prog 230 (some ti230):=trN Tryz.underlying230
theorem tr231:TRow Tryz.prog 231 (some ti231):=trN Tryz.underlying231
theorem tr232:TRow Tryz.prog 232 (some ti232):=trN Tryz.underlying232
theorem tr233:TRow Tryz.prog 233 (some ti233):=trN Tryz.underlying233
theorem tr234:TRow Tryz.prog 234 (some ti234):=trN Tryz.underlying234
theorem tr235:TRow Tryz.prog 235 (some ti235):=fun i h=>by cases h; exact ⟨Tryz.underlying235,by kernel_rfl,by kernel_rfl,by kernel_rfl,(fun _ h=>by cases h; exact arr_law Tryz.underlying235 Tryz.underlying2 (by kernel_rfl)),(fun _=>⟨by kernel_rfl,by kernel_rfl⟩)⟩
theorem tr236:TRow Tryz.prog 236 (some ti236):=trN Tryz.underlying236
theorem tr237:TRow Tryz.prog 237 (some ti237):=trN Tryz.underlying237
theorem tr238:TRow Tryz.prog 238 (some ti238):=trN Tryz.underlying238
theorem tr239:TRow Tryz.prog 239 (some ti239):=trN Tryz.underlying239
theorem tr240:TRow Tryz.prog 240 (some ti240):=trN Tryz.underlying240
theorem tr241:TRow Tryz.prog 241 (some ti241):=trN Tryz.underlying241
theorem tr242:TRow Tryz.prog 242 (some ti242):=trN Tryz.underlying242
theorem tr243:TRow Tryz.prog 243 (some ti243):=fun i h=>by cases h; exact ⟨Tryz.underlying243,by kernel_rfl,by kernel_rfl,by kernel_rfl,(fun _ h=>by cases h),(fun _=>⟨by kernel_rfl,by kernel_rfl⟩)⟩
theorem tr244:TRow Tryz.prog 244 (some ti244):=fun i h=>by cases h; exact ⟨Tryz.underlying244,by kernel_rfl,by kernel_rfl,by kernel_rfl,(fun _ h=>by cases h),(fun _=>⟨by kernel_rfl,by kernel_rfl⟩)⟩
theorem tr245:TRow Tryz.prog 245 (some ti245):=trN Tryz.underlying245
theorem tr246:TRow Tryz.prog 246 (some ti246):=trN Tryz.underlying246
theorem tr247:TRow Tryz.prog 247 (some ti247):=trN Tryz.underlying247
theorem tr248:TRow Tryz.prog 248 (some ti248):=trN Tryz.underlying248
theorem tr249:TRow Tryz.prog 249 (some ti249):=trN Tryz.underlying249
theorem tr250:TRow Tryz.prog 250 (some ti250):=trN Tryz.underlying250
theorem tr251:TRow Tryz.prog 251 (some ti251):=trN Tryz.underlying251
theorem tr252:TRow Tryz.prog 252 (some ti252):=trN Tryz.underlying252
theorem tr253:TRow Tryz.prog 253 (some ti253):=trN Tryz.underlying253
theorem tr254:TRow Tryz.prog 254 (some ti254):=fun i h=>by cases h; exact ⟨Tryz.underlying254,by kernel_rfl,by kernel_rfl,by kernel_rfl,(fun _ h=>by cases h; exact int_law Tryz.underlying254),(fun h=>by cases h)⟩
theorem tr256:TRow Tryz.prog 256 (some ti256):=trN Tryz.underlying256
theorem tr257:TRow Tryz.prog 257 (some ti257):=trN Tryz.underlying257
theorem tr258:TRow Tryz.prog 258 (some ti258):=trN Tryz.underlying258
theorem tr259:TRow Tryz.prog 259 (some ti259):=trN Tryz.underlying259
theorem tr260:TRow Tryz.prog 260 (some ti260):=trN Tryz.underlying260
theorem tr261:TRow Tryz.prog 261 (some ti261):=trN Tryz.underlying261
theorem tr262:TRow Tryz.prog 262 (some ti262):=fun i h=>by cases h; exact ⟨Tryz.underlying262,by kernel_rfl,by kernel_rfl,by kernel_rfl,(fun _ h=>by cases h; exact int_law Tryz.underlying262),(fun h=>by cases h)⟩
theorem tr263:TRow Tryz.prog 263 (some ti263):=trN Tryz.underlying263
theorem tr264:TRow Tryz.prog 264 (some ti264):=trN Tryz.underlying264
theorem tr265:TRow Tryz.prog 265 (some ti265):=trN Tryz.underlying265
theorem tr266:TRow Tryz.prog 266 (some ti266):=trN Tryz.underlying266
theorem tr267:TRow Tryz.prog 267 (some ti267):=trN Tryz.underlying267
theorem tr268:TRow Tryz.prog 268 (some ti268):=trN Tryz.underlying268
theorem tr269:TRow Tryz.prog 269 (some ti269):=trN Tryz.underlying269
theorem tr270:TRow Tryz.prog 270 (some ti270):=trN Tryz.underlying270
theorem tr271:TRow Tryz.prog 271 (some ti271):=trN Tryz.underlying271
theorem tr272:TRow Tryz.prog 272 (some ti272):=trN Tryz.underlying272
theorem tr273:TRow Tryz.prog 273 (some ti273):=trN Tryz.underlying273
theorem tr274:TRow Tryz.prog 274 (some ti274):=trN Tryz.underlying274
theorem tr275:TRow Tryz.prog 275 (some ti275):=trN Tryz.underlying275
theorem tr276:TRow Tryz.prog 276 (some ti276):=trN Tryz.underlying276
theorem tr277:TRow Tryz.prog 277 (some ti277):=trN Tryz.underlying277
theorem tr278:TRow Tryz.prog 278 (some ti278):=trN Tryz.underlying278
theorem tr279:TRow Tryz.prog 279 (some ti279):=trN Tryz.underlying279
theorem tr280:TRow Tryz.prog 280 (some ti280):=trN Tryz.underlying280
theorem tr281:TRow Tryz.prog 281 (some ti281):=trN Tryz.underlying281
theorem tr282:TRow Tryz.prog 282 (some ti282):=trN Tryz.underlying282
theorem tr283:TRow Tryz.prog 283 (some ti283):=trN Tryz.underlying283
theorem tr284:TRow Tryz.prog 284 (some ti284):=trN Tryz.underlying284
theorem tr285:TRow Tryz.prog 285 (some ti285):=trN Tryz.underlying285
theorem tr286:TRow Tryz.prog 286 (some ti286):=trN Tryz.underlying286
theorem tr287:TRow Tryz.prog 287 (some ti287):=trN Tryz.underlying287
theorem tr288:TRow Tryz.prog 288 (some ti288):=trN Tryz.underlying288
theorem tr289:TRow Tryz.prog 289 (some ti289):=trN Tryz.underlying289
theorem tr290:TRow Tryz.prog 290 (some ti290):=trN Tryz.underlying290
theorem tr291:TRow Tryz.prog 291 (some ti291):=trN Tryz.underlying291
theorem tr292:TRow Tryz.prog 292 (some ti292):=trN Tryz.underlying292
theorem tr293:TRow Tryz.prog 293 (some ti293):=trN Tryz.underlying293
theorem tr294:TRow Tryz.prog 294 (some ti294):=trN Tryz.underlying294
theorem tr295:TRow Tryz.prog 295 (some ti295):=trN Tryz.underlying295
theorem tr296:TRow Tryz.prog 296 (some ti296):=trN Tryz.underlying296
theorem tr297:TRow Tryz.prog 297 (some ti297):=trN Tryz.underlying297
theorem tr298:TRow Tryz.prog 298 (some ti298):=trN Tryz.underlying298
theorem tr299:TRow Tryz.prog 299 (some ti299):=trN Tryz.underlying299
theorem tr300:TRow Tryz.prog 300 (some ti300):=trN Tryz.underlying300
theorem tr301:TRow Tryz.prog 301 (some ti301):=fun i h=>by cases h; exact ⟨Tryz.underlying301,by kernel_rfl,by kernel_rfl,by kernel_rfl,(fun _ h=>by cases h; exact int_law Tryz.underlying301),(fun h=>by cases h)⟩
theorem tr302:TRow Tryz.prog 302 (some ti302):=trN Tryz.underlying302
theorem tr303:TRow Tryz.prog 303 (some ti303):=trN Tryz.underlying303
theorem tr304:TRow Tryz.prog 304 (some ti304):=trN Tryz.underlying304
theorem tr305:TRow Tryz.prog 305 (some ti305):=trN Tryz.underlying305
theorem tr306:TRow Tryz.prog 306 (some ti306):=trN Tryz.underlying306
theorem tr307:TRow Tryz.prog 307 (some ti307):=trN Tryz.underlying307
theorem tr308:TRow Tryz.prog 308 (some ti308):=trN Tryz.underlying308
theorem tr309:TRow Tryz.prog 309 (some ti309):=trN Tryz.underlying309
theorem tr310:TRow Tryz.prog 310 (some ti310):=trN Tryz.underlying310
theorem tr311:TRow Tryz.prog 311 (some ti311):=trN Tryz.underlying311
theorem tr312:TRow Tryz.prog 312 (some ti312):=trN Tryz.underlying312
theorem tr313:TRow Tryz.prog 313 (some ti313):=trN Tryz.underlying313
theorem tr314:TRow Tryz.prog 314 (some ti314):=trN Tryz.underlying314
theorem tr315:TRow Tryz.prog 315 (some ti315):=trN Tryz.underlying315
theorem tr316:TRow Tryz.prog 316 (some ti316):=trN Tryz.underlying316
theorem tr317:TRow Tryz.prog 317 (some ti317):=trN Tryz.underlying317
theorem tr318:TRow Tryz.prog 318 (some ti318):=trN Tryz.underlying318
theorem tr319:TRow Tryz.prog 319 (some ti319):=trN Tryz.underlying319
theorem tr320:TRow Tryz.prog 320 (some ti320):=trN Tryz.underlying320
theorem tr321:TRow Tryz.prog 321 (some ti321):=trN Tryz.underlying321
theorem tr322:TRow Tryz.prog 322 (some ti322):=trN Tryz.underlying322
theorem tr323:TRow Tryz.prog 323 (some ti323):=trN Tryz.underlying323
theorem tr324:TRow Tryz.prog 324 (some ti324):=trN Tryz.underlying324
theorem tr325:TRow Tryz.prog 325 (some ti325):=trN Tryz.underlying325
theorem tr326:TRow Tryz.prog 326 (some ti326):=trN Tryz.underlying326
theorem tr327:TRow Tryz.prog 327 (some ti327):=trN Tryz.underlying327
theorem tr328:TRow Tryz.prog 328 (some ti328):=trN Tryz.underlying328
theorem tr329:TRow Tryz.prog 329 (some ti329):=trN Tryz.underlying329
theorem tr330:TRow Tryz.prog 330 (some ti330):=trN Tryz.underlying330
theorem tr331:TRow Tryz.prog 331 (some ti331):=trN Tryz.underlying331
theorem tr332:TRow Tryz.prog 332 (some ti332):=trN Tryz.underlying332
theorem tr333:TRow Tryz.prog 333 (some ti333):=trN Tryz.underlying333
theorem tr335:TRow Tryz.prog 335 (some ti335):=trN Tryz.underlying335
theorem tr336:TRow Tryz.prog 336 (some ti336):=trN Tryz.underlying336
theorem tr337:TRow Tryz.prog 337 (some ti337):=trN Tryz.underlying337
theorem tr338:TRow Tryz.prog 338 (some ti338):=fun i h=>by cases h; exact ⟨Tryz.underlying338,by kernel_rfl,by kernel_rfl,by kernel_rfl,(fun _ h=>by cases h),(fun _=>⟨by kernel_rfl,by kernel_rfl⟩)⟩
theorem tr339:TRow Tryz.prog 339 (some ti339):=trN Tryz.underlying339
theorem tr340:TRow Tryz.prog 340 (some ti340):=trN Tryz.underlying340
theorem tr341:TRow Tryz.prog 341 (some ti341):=trN Tryz.underlying341
theorem tr342:TRow Tryz.prog 342 (some ti342):=trN Tryz.underlying342
theorem tr343:TRow Tryz.prog 343 (some ti343):=trN Tryz.underlying343
theorem tr344:TRow Tryz.prog 344 (some ti344):=trN Tryz.underlying344
theorem tr345:TRow Tryz.prog 345 (some ti345):=trN Tryz.underlying345
theorem tr346:TRow Tryz.prog 346 (some ti346):=trN Tryz.underlying346
theorem tr347:TRow Tryz.prog 347 (some ti347):=trN Tryz.underlying347
theorem tr348:TRow Tryz.prog 348 (some ti348):=trN Tryz.underlying348
theorem tr349:TRow Tryz.prog 349 (some ti349):=trN Tryz.underlying349
theorem tr350:TRow Tryz.prog 350 (some ti350):=trN Tryz.underlying350
theorem tr351:TRow Tryz.prog 351 (some ti351):=fun i h=>by cases h; exact ⟨Tryz.underlying351,by kernel_rfl,by kernel_rfl,by kernel_rfl,(fun _ h=>by cases h),(fun _=>⟨by kernel_rfl,by kernel_rfl⟩)⟩
theorem tr352:TRow Tryz.prog 352 (some ti352):=trN Tryz.underlying352
theorem tr353:TRow Tryz.prog 353 (some ti353):=trN Tryz.underlying353
theorem tr354:TRow Tryz.prog 354 (some ti354):=fun i h=>by cases h; exact ⟨Tryz.underlying354,by kernel_rfl,by kernel_rfl,by kernel_rfl,(fun _ h=>by cases h; exact int_law Tryz.underlying354),(fun h=>by cases h)⟩
theorem tr355:TRow Tryz.prog 355 (some ti355):=fun i h=>by cases h; exact ⟨Tryz.underlying355,by kernel_rfl,by kernel_rfl,by kernel_rfl,(fun _ h=>by cases h; exact int_law Tryz.underlying355),(fun h=>by cases h)⟩
theorem tr356:TRow Tryz.prog 356 (some ti356):=trN Tryz.underlying356
theorem tr357:TRow Tryz.prog 357 (some ti357):=trN Tryz.underlying357
theorem tr358:TRow Tryz.prog 358 (some ti358):=fun i h=>by cases h; exact ⟨Tryz.underlying358,by kernel_rfl,by kernel_rfl,by kernel_rfl,(fun _ h=>by cases h; exact int_law Tryz.underlying358),(fun h=>by cases h)⟩
theorem tr359:TRow Tryz.prog 359 (some ti359):=fun i h=>by cases h; exact ⟨Tryz.underlying359,by kernel_rfl,by kernel_rfl,by kernel_rfl,(fun _ h=>by cases h; exact int_law Tryz.underlying359),(fun h=>by cases h)⟩
theorem tr360:TRow Tryz.prog 360 (some ti360):=trN Tryz.underlying360
theorem tr361:TRow Tryz.prog 361 (some ti361):=trN Tryz.underlying361
theorem trows:TRows Tryz.prog 0 tys :=
 trows_cons trow_none <|
 trows_cons tr1 <|
 trows_cons tr2 <|
 trows_cons tr3 <|
 trows_cons tr4 <|
 trows_cons tr5 <|
 trows_cons tr6 <|
 trows_cons tr7 <|
 trows_cons tr8 <|
 trows_cons tr9 <|
 trows_cons tr10 <|
 trows_cons tr11 <|
 trows_cons tr12 <|
 trows_cons tr13 <|
 trows_cons tr14 <|
 trows_cons tr15 <|
 trows_cons tr16 <|
 trows_cons tr17 <|
 trows_cons tr18 <|
 trows_cons tr19 <|
 trows_cons trow_none <|
 trows_cons tr21 <|
 trows_cons tr22 <|
 trows_cons tr23 <|
 trows_cons tr24 <|
 trows_cons tr25 <|
 trows_cons tr26 <|
 trows_cons tr27 <|
 trows_cons tr28 <|
 trows_cons tr29 <|
 trows_cons tr30 <|
 trows_cons tr31 <|
 trows_cons tr32 <|
 trows_cons tr33 <|
 trows_cons tr34 <|
 trows_cons trow_none <|
 trows_cons tr36 <|
 trows_cons tr37 <|
 trows_cons tr38 <|
 trows_cons tr39 <|
 trows_cons tr40 <|
 trows_cons tr41 <|
 trows_cons trow_none <|
 trows_cons tr43 <|
 trows_cons tr44 <|
 trows_cons tr45 <|
 trows_cons tr46 <|
 trows_cons tr47 <|
 trows_cons tr48 <|
 trows_cons tr49 <|
 trows_cons tr50 <|
 trows_cons tr51 <|
 trows_cons tr52 <|
 trows_cons tr53 <|
 trows_cons tr54 <|
 trows_cons tr55 <|
 trows_cons tr56 <|
 trows_cons tr57 <|
 trows_cons tr58 <|
 trows_cons tr59 <|
 trows_cons tr60 <|
 trows_cons tr61 <|
 trows_cons tr62 <|
 trows_cons tr63 <|
 trows_cons tr64 <|
 trows_cons tr65 <|
 trows_cons tr66 <|
 trows_cons tr67 <|
 trows_cons tr68 <|
 trows_cons trow_none <|
 trows_cons tr70 <|
 trows_cons trow_none <|
 trows_cons tr72 <|
 trows_cons tr73 <|
 trows_cons tr74 <|
 trows_cons tr75 <|
 trows_cons tr76 <|
 trows_cons tr77 <|
 trows_cons tr78 <|
 trows_cons tr79 <|
 trows_cons tr80 <|
 trows_cons tr81 <|
 trows_cons tr82 <|
 trows_cons tr83 <|
 trows_cons tr84 <|
 trows_cons tr85 <|
 trows_cons tr86 <|
 trows_cons tr87 <|
 trows_cons tr88 <|
 trows_cons tr89 <|
 trows_cons tr90 <|
 trows_cons tr91 <|
 trows_cons tr92 <|
 trows_cons tr93 <|
 trows_cons tr94 <|
 trows_cons tr95 <|
 trows_cons tr96 <|
 trows_cons tr97 <|
 trows_cons tr98 <|
 trows_cons tr99 <|
 trows_cons tr100 <|
 trows_cons trow_none <|
 trows_cons tr102 <|
 trows_cons tr103 <|
 trows_cons tr104 <|
 trows_cons tr105 <|
 trows_cons trow_none <|
 trows_cons tr107 <|
 trows_cons tr108 <|
 trows_cons tr109 <|
 trows_cons trow_none <|
 trows_cons tr111 <|
 trows_cons tr112 <|
 trows_cons tr113 <|
 trows_cons trow_none <|
 trows_cons tr115 <|
 trows_cons trow_none <|
 trows_cons tr117 <|
 trows_cons trow_none <|
 trows_cons tr119 <|
 trows_cons tr120 <|
 trows_cons tr121 <|
 trows_cons tr122 <|
 trows_cons tr123 <|
 trows_cons tr124 <|
 trows_cons trow_none <|
 trows_cons tr126 <|
 trows_cons trow_none <|
 trows_cons tr128 <|
 trows_cons tr129 <|
 trows_cons tr130 <|
 trows_cons trow_none <|
 trows_cons tr132 <|
 trows_cons trow_none <|
 trows_cons tr134 <|
 trows_cons tr135 <|
 trows_cons tr136 <|
 trows_cons trow_none <|
 trows_cons tr138 <|
 trows_cons tr139 <|
 trows_cons trow_none <|
 trows_cons tr141 <|
 trows_cons tr142 <|
 trows_cons tr143 <|
 trows_cons tr144 <|
 trows_cons tr145 <|
 trows_cons tr146 <|
 trows_cons tr147 <|
 trows_cons tr148 <|
 trows_cons tr149 <|
 trows_cons trow_none <|
 trows_cons tr151 <|
 trows_cons tr152 <|
 trows_cons tr153 <|
 trows_cons tr154 <|
 trows_cons tr155 <|
 trows_cons trow_none <|
 trows_cons tr157 <|
 trows_cons tr158 <|
 trows_cons tr159 <|
 trows_cons tr160 <|
 trows_cons tr161 <|
 trows_cons tr162 <|
 trows_cons tr163 <|
 trows_cons tr164 <|
 trows_cons tr165 <|
 trows_cons tr166 <|
 trows_cons trow_none <|
 trows_cons tr168 <|
 trows_cons trow_none <|
 trows_cons tr170 <|
 trows_cons tr171 <|
 trows_cons tr172 <|
 trows_cons tr173 <|
 trows_cons tr174 <|
 trows_cons tr175 <|
 trows_cons tr176 <|
 trows_cons tr177 <|
 trows_cons tr178 <|
 trows_cons tr179 <|
 trows_cons tr180 <|
 trows_cons tr181 <|
 trows_cons tr182 <|
 trows_cons tr183 <|
 trows_cons tr184 <|
 trows_cons tr185 <|
 trows_cons tr186 <|
 trows_cons tr187 <|
 trows_cons tr188 <|
 trows_cons tr189 <|
 trows_cons tr190 <|
 trows_cons tr191 <|
 trows_cons tr192 <|
 trows_cons tr193 <|
 trows_cons trow_none <|
 trows_cons tr195 <|
 trows_cons tr196 <|
 trows_cons tr197 <|
 trows_cons tr198 <|
 trows_cons tr199 <|
 trows_cons tr200 <|
 trows_cons tr201 <|
 trows_cons tr202 <|
 trows_cons tr203 <|
 trows_cons tr204 <|
 trows_cons tr205 <|
 trows_cons tr206 <|
 trows_cons tr207 <|
 trows_cons tr208 <|
 trows_cons tr209 <|
 trows_cons tr210 <|
 trows_cons tr211 <|
 trows_cons tr212 <|
 trows_cons tr213 <|
 trows_cons tr214 <|
 trows_cons tr215 <|
 trows_cons trow_none <|
 trows_cons tr217 <|
 trows_cons tr218 <|
 trows_cons tr219 <|
 trows_cons tr220 <|
 trows_cons tr221 <|
 trows_cons tr222 <|
 trows_cons tr223 <|
 trows_cons tr224 <|
 trows_cons tr225 <|
 trows_cons tr226 <|
 trows_cons tr227 <|
 trows_cons tr228 <|
 trows_cons tr229 <|
 trows_cons tr230 <|
 trows_cons tr231 <|
 trows_cons tr232 <|
 trows_cons tr233 <|
 trows_cons tr234 <|
 trows_cons tr235 <|
 trows_cons tr236 <|
 trows_cons tr237 <|
 trows_cons tr238 <|
 trows_cons tr239 <|
 trows_cons tr240 <|
 trows_cons tr241 <|
 trows_cons tr242 <|
 trows_cons tr243 <|
 trows_cons tr244 <|
 trows_cons tr245 <|
 trows_cons tr246 <|
 trows_cons tr247 <|
 trows_cons tr248 <|
 trows_cons tr249 <|
 trows_cons tr250 <|
 trows_cons tr251 <|
 trows_cons tr252 <|
 trows_cons tr253 <|
 trows_cons tr254 <|
 trows_cons trow_none <|
 trows_cons tr256 <|
 trows_cons tr257 <|
 trows_cons tr258 <|
 trows_cons tr259 <|
 trows_cons tr260 <|
 trows_cons tr261 <|
 trows_cons tr262 <|
 trows_cons tr263 <|
 trows_cons tr264 <|
 trows_cons tr265 <|
 trows_cons tr266 <|
 trows_cons tr267 <|
 trows_cons tr268 <|
 trows_cons tr269 <|
 trows_cons tr270 <|
 trows_cons tr271 <|
 trows_cons tr272 <|
 trows_cons tr273 <|
 trows_cons tr274 <|
 trows_cons tr275 <|
 trows_cons tr276 <|
 trows_cons tr277 <|
 trows_cons tr278 <|
 trows_cons tr279 <|
 trows_cons tr280 <|
 trows_cons tr281 <|
 trows_cons tr282 <|
 trows_cons tr283 <|
 trows_cons tr284 <|
 trows_cons tr285 <|
 trows_cons tr286 <|
 trows_cons tr287 <|
 trows_cons tr288 <|
 trows_cons tr289 <|
 trows_cons tr290 <|
 trows_cons tr291 <|
 trows_cons tr292 <|
 trows_cons tr293 <|
 trows_cons tr294 <|
 trows_cons tr295 <|
 trows_cons tr296 <|
 trows_cons tr297 <|
 trows_cons tr298 <|
 trows_cons tr299 <|
 trows_cons tr300 <|
 trows_cons tr301 <|
 trows_cons tr302 <|
 trows_cons tr303 <|
 trows_cons tr304 <|
 trows_cons tr305 <|
 trows_cons tr306 <|
 trows_cons tr307 <|
 trows_cons tr308 <|
 trows_cons tr309 <|
 trows_cons tr310 <|
 trows_cons tr311 <|
 trows_cons tr312 <|
 trows_cons tr313 <|
 trows_cons tr314 <|
 trows_cons tr315 <|
 trows_cons tr316 <|
 trows_cons tr317 <|
 trows_cons tr318 <|
 trows_cons tr319 <|
 trows_cons tr320 <|
 trows_cons tr321 <|
 trows_cons tr322 <|
 trows_cons tr323 <|
 trows_cons tr324 <|
 trows_cons tr325 <|
 trows_cons tr326 <|
 trows_cons tr327 <|
 trows_cons tr328 <|
 trows_cons tr329 <|
 trows_cons tr330 <|
 trows_cons tr331 <|
 trows_cons tr332 <|
 trows_cons tr333 <|
 trows_cons trow_none <|
 trows_cons tr335 <|
 trows_cons tr336 <|
 trows_cons tr337 <|
 trows_cons tr338 <|
 trows_cons tr339 <|
 trows_cons tr340 <|
 trows_cons tr341 <|
 trows_cons tr342 <|
 trows_cons tr343 <|
 trows_cons tr344 <|
 trows_cons tr345 <|
 trows_cons tr346 <|
 trows_cons tr347 <|
 trows_cons tr348 <|
 trows_cons tr349 <|
 trows_cons tr350 <|
 trows_cons tr351 <|
 trows_cons tr352 <|
 trows_cons tr353 <|
 trows_cons tr354 <|
 trows_cons tr355 <|
 trows_cons tr356 <|
 trows_cons tr357 <|
 trows_cons tr358 <|
 trows_cons tr359 <|
 trows_cons tr360 <|
 trows_cons tr361 <|
 trows_nil
theorem tok:TOk Tryz.prog T:=tok_rows trows
end
end Go.Proofs.YtjogkbekekdkjaaGreatDoor
