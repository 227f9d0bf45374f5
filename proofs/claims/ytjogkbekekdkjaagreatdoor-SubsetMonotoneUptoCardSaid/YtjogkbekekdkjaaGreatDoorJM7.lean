/- JM7: own texts of this seat, joined and shortened by pack4.py: Ty. -/
import Derived.Test.YtjogkbekekdkjaaGreatDoorJM5
import Derived.Test.YtjogkbekekdkjaaGreatDoorProg
import Derived.KernelRfl
set_option linter.unusedVariables false
set_option linter.unusedSimpArgs false
set_option maxRecDepth 100000
set_option maxHeartbeats 64000000
open ByteArray renaming empty→pE
namespace Go.Proofs.YtjogkbekekdkjaaGreatDoor
section
open Go Go.AM
noncomputable def T:Ty:=mkTI Tryz.prog
@[simp] theorem T_1:T 1=some ⟨.func #[] #[] false,1,8,.nilFn,.nilFunc,none,false,false⟩:=by kernel_rfl
@[simp] theorem T_2:T 2=some ⟨.int .i64,1,8,.int .i64 0,.int .i64 0,some (.int .i64),false,false⟩:=by kernel_rfl
@[simp] theorem T_3:T 3=some ⟨.int .i64,1,8,.int .i64 0,.int .i64 0,some (.int .i64),false,false⟩:=by kernel_rfl
@[simp] theorem T_4:T 4=some ⟨.bool,1,1,.bool false,.bool false,some .bool,false,false⟩:=by kernel_rfl
@[simp] theorem T_5:T 5=some ⟨.int .u8,1,1,.int .u8 0,.int .u8 0,some (.int .u8),false,false⟩:=by kernel_rfl
@[simp] theorem T_6:T 6=some ⟨.int .u8,1,1,.int .u8 0,.int .u8 0,some (.int .u8),false,false⟩:=by kernel_rfl
@[simp] theorem T_7:T 7=some ⟨.struct #[⟨ "x",2,0,false, "", "runtime",0⟩,⟨ "y",3,1,false, "", "runtime",8⟩,⟨ "signed",4,2,false, "", "runtime",16⟩,⟨ "code",6,3,false, "", "runtime",17⟩],4,24,.agg [.int .i64 0,.int .i64 0,.bool false,.int .u8 0],.agg #[.int .i64 0,.int .i64 0,.bool false,.int .u8 0],none,true,false⟩:=by kernel_rfl
@[simp] theorem T_8:T 8=some ⟨.struct #[⟨ "x",2,0,false, "", "runtime",0⟩,⟨ "y",3,1,false, "", "runtime",8⟩,⟨ "signed",4,2,false, "", "runtime",16⟩,⟨ "code",6,3,false, "", "runtime",17⟩],4,24,.agg [.int .i64 0,.int .i64 0,.bool false,.int .u8 0],.agg #[.int .i64 0,.int .i64 0,.bool false,.int .u8 0],none,true,false⟩:=by kernel_rfl
@[simp] theorem T_9:T 9=some ⟨.string,1,16,.str pE,.string pE,some .str,false,false⟩:=by kernel_rfl
@[simp] theorem T_10:T 10=some ⟨.string,1,16,.str pE,.string pE,some .str,false,false⟩:=by kernel_rfl
@[simp] theorem T_11:T 11=some ⟨.string,1,16,.str pE,.string pE,some .str,false,false⟩:=by kernel_rfl
@[simp] theorem T_12:T 12=some ⟨.int .u64,1,8,.int .u64 0,.int .u64 0,some (.int .u64),false,false⟩:=by kernel_rfl
@[simp] theorem T_13:T 13=some ⟨.struct #[⟨ "msg",9,0,false, "", "runtime",0⟩,⟨ "addr",12,1,false, "", "runtime",16⟩],2,24,.agg [.str pE,.int .u64 0],.agg #[.string pE,.int .u64 0],none,false,false⟩:=by kernel_rfl
@[simp] theorem T_14:T 14=some ⟨.struct #[⟨ "msg",9,0,false, "", "runtime",0⟩,⟨ "addr",12,1,false, "", "runtime",16⟩],2,24,.agg [.str pE,.int .u64 0],.agg #[.string pE,.int .u64 0],none,false,false⟩:=by kernel_rfl
@[simp] theorem T_15:T 15=some ⟨.pointer 350,1,8,.nilP,.pointer none,none,false,false⟩:=by kernel_rfl
@[simp] theorem T_16:T 16=some ⟨.pointer 353,1,8,.nilP,.pointer none,none,false,false⟩:=by kernel_rfl
@[simp] theorem T_17:T 17=some ⟨.pointer 361,1,8,.nilP,.pointer none,none,false,false⟩:=by kernel_rfl
@[simp] theorem T_18:T 18=some ⟨.struct #[⟨ "typ",17,0,false, "", "internal/runtime/maps",0⟩],1,8,.agg [.nilP],.agg #[.pointer none],none,false,false⟩:=by kernel_rfl
@[simp] theorem T_19:T 19=some ⟨.struct #[⟨ "typ",17,0,false, "", "internal/runtime/maps",0⟩],1,8,.agg [.nilP],.agg #[.pointer none],none,false,false⟩:=by kernel_rfl
@[simp] theorem T_22:T 22=some ⟨.slice 26,1,24,.nilS,.slice none 0 0,none,false,false⟩:=by kernel_rfl
@[simp] theorem T_24:T 24=some ⟨.struct #[⟨ "Attrs",5,0,false, "", "",0⟩,⟨ "Gap",5,1,false, "", "",1⟩,⟨ "Rows",22,2,false, "", "",8⟩],3,32,.agg [.int .u8 0,.int .u8 0,.nilS],.agg #[.int .u8 0,.int .u8 0,.slice none 0 0],none,true,false⟩:=by kernel_rfl
@[simp] theorem T_25:T 25=some ⟨.slice 100,1,24,.nilS,.slice none 0 0,none,false,false⟩:=by kernel_rfl
@[simp] theorem T_26:T 26=some ⟨.slice 5,1,24,.nilS,.slice none 0 0,none,false,false⟩:=by kernel_rfl
@[simp] theorem T_28:T 28=some ⟨.struct #[⟨ "T",24,0,false, "", "",0⟩,⟨ "Rules",25,3,false, "", "",32⟩,⟨ "Weights",26,4,false, "", "",56⟩],5,80,.agg [.int .u8 0,.int .u8 0,.nilS,.nilS,.nilS],.agg #[.int .u8 0,.int .u8 0,.slice none 0 0,.slice none 0 0,.slice none 0 0],none,true,false⟩:=by kernel_rfl
@[simp] theorem T_29:T 29=some ⟨.slice 9,1,24,.nilS,.slice none 0 0,none,false,false⟩:=by kernel_rfl
@[simp] theorem T_30:T 30=some ⟨.slice 80,1,24,.nilS,.slice none 0 0,none,false,false⟩:=by kernel_rfl
@[simp] theorem T_32:T 32=some ⟨.struct #[⟨ "Name",9,0,false, "", "",0⟩,⟨ "Attrs",29,1,false, "", "",16⟩,⟨ "Rows",30,2,false, "", "",40⟩],3,64,.agg [.str pE,.nilS,.nilS],.agg #[.string pE,.slice none 0 0,.slice none 0 0],none,true,false⟩:=by kernel_rfl
@[simp] theorem T_33:T 33=some ⟨.slice 62,1,24,.nilS,.slice none 0 0,none,false,false⟩:=by kernel_rfl
@[simp] theorem T_34:T 34=some ⟨.slice 2,1,24,.nilS,.slice none 0 0,none,false,false⟩:=by kernel_rfl
@[simp] theorem T_38:T 38=some ⟨.slice 50,1,24,.nilS,.slice none 0 0,none,false,false⟩:=by kernel_rfl
@[simp] theorem T_40:T 40=some ⟨.struct #[⟨ "Weights",34,0,false, "", "",0⟩,⟨ "Edges",38,1,false, "", "",24⟩],2,48,.agg [.nilS,.nilS],.agg #[.slice none 0 0,.slice none 0 0],none,true,false⟩:=by kernel_rfl
@[simp] theorem T_41:T 41=some ⟨.int .i64,1,8,.int .i64 0,.int .i64 0,some (.int .i64),false,false⟩:=by kernel_rfl
@[simp] theorem T_45:T 45=some ⟨.int .u32,1,4,.int .u32 0,.int .u32 0,some (.int .u32),false,false⟩:=by kernel_rfl
@[simp] theorem T_46:T 46=some ⟨.int .u32,1,4,.int .u32 0,.int .u32 0,some (.int .u32),false,false⟩:=by kernel_rfl
@[simp] theorem T_48:T 48=some ⟨.struct #[⟨ "Lhs",46,0,false, "", "",0⟩,⟨ "Rhs",46,1,false, "", "",4⟩],2,8,.agg [.int .u32 0,.int .u32 0],.agg #[.int .u32 0,.int .u32 0],none,true,false⟩:=by kernel_rfl
@[simp] theorem T_49:T 49=some ⟨.struct #[⟨ "Lhs",46,0,false, "", "",0⟩,⟨ "Rhs",46,1,false, "", "",4⟩],2,8,.agg [.int .u32 0,.int .u32 0],.agg #[.int .u32 0,.int .u32 0],none,true,false⟩:=by kernel_rfl
@[simp] theorem T_50:T 50=some ⟨.slice 3,1,24,.nilS,.slice none 0 0,none,false,false⟩:=by kernel_rfl
@[simp] theorem T_52:T 52=some ⟨.struct #[⟨ "From",9,0,false, "", "",0⟩,⟨ "Lhs",50,1,false, "", "",16⟩,⟨ "To",9,2,false, "", "",40⟩,⟨ "Rhs",50,3,false, "", "",56⟩],4,80,.agg [.str pE,.nilS,.str pE,.nilS],.agg #[.string pE,.slice none 0 0,.string pE,.slice none 0 0],none,true,false⟩:=by kernel_rfl
@[simp] theorem T_53:T 53=some ⟨.slice 202,1,24,.nilS,.slice none 0 0,none,false,false⟩:=by kernel_rfl
@[simp] theorem T_55:T 55=some ⟨.struct #[⟨ "Lhs",50,0,false, "", "",0⟩,⟨ "Rhs",3,1,false, "", "",24⟩,⟨ "Pattern",53,2,false, "", "",32⟩],3,56,.agg [.nilS,.int .i64 0,.nilS],.agg #[.slice none 0 0,.int .i64 0,.slice none 0 0],none,true,false⟩:=by kernel_rfl
@[simp] theorem T_57:T 57=some ⟨.struct #[⟨ "Lhs",50,0,false, "", "",0⟩,⟨ "Rhs",50,1,false, "", "",24⟩],2,48,.agg [.nilS,.nilS],.agg #[.slice none 0 0,.slice none 0 0],none,true,false⟩:=by kernel_rfl
@[simp] theorem T_58:T 58=some ⟨.slice 213,1,24,.nilS,.slice none 0 0,none,false,false⟩:=by kernel_rfl
@[simp] theorem T_60:T 60=some ⟨.struct #[⟨ "Vars",3,0,false, "", "",0⟩,⟨ "Atoms",58,1,false, "", "",8⟩],2,32,.agg [.int .i64 0,.nilS],.agg #[.int .i64 0,.slice none 0 0],none,true,false⟩:=by kernel_rfl
@[simp] theorem T_62:T 62=some ⟨.struct #[⟨ "Name",9,0,false, "", "",0⟩,⟨ "Table",9,1,false, "", "",16⟩,⟨ "Kind",3,2,false, "", "",32⟩,⟨ "FD",48,3,false, "", "",40⟩,⟨ "MVD",49,5,false, "", "",48⟩,⟨ "IND",52,7,false, "", "",56⟩,⟨ "CFD",55,11,false, "", "",136⟩,⟨ "OD",57,14,false, "", "",192⟩,⟨ "Denial",60,16,false, "", "",240⟩],18,272,.agg [.str pE,.str pE,.int .i64 0,.int .u32 0,.int .u32 0,.int .u32 0,.int .u32 0,.str pE,.nilS,.str pE,.nilS,.nilS,.int .i64 0,.nilS,.nilS,.nilS,.int .i64 0,.nilS],.agg #[.string pE,.string pE,.int .i64 0,.int .u32 0,.int .u32 0,.int .u32 0,.int .u32 0,.string pE,.slice none 0 0,.string pE,.slice none 0 0,.slice none 0 0,.int .i64 0,.slice none 0 0,.slice none 0 0,.slice none 0 0,.int .i64 0,.slice none 0 0],none,true,false⟩:=by kernel_rfl
@[simp] theorem T_66:T 66=some ⟨.slice 77,1,24,.nilS,.slice none 0 0,none,false,false⟩:=by kernel_rfl
@[simp] theorem T_68:T 68=some ⟨.struct #[⟨ "Deleted",34,0,false, "", "",0⟩,⟨ "Weight",2,1,false, "", "",24⟩,⟨ "Proof",66,2,false, "", "",32⟩],3,56,.agg [.nilS,.int .i64 0,.nilS],.agg #[.slice none 0 0,.int .i64 0,.slice none 0 0],none,true,false⟩:=by kernel_rfl
@[simp] theorem T_75:T 75=some ⟨.slice 121,1,24,.nilS,.slice none 0 0,none,false,false⟩:=by kernel_rfl
@[simp] theorem T_77:T 77=some ⟨.struct #[⟨ "Vertex",3,0,false, "", "",0⟩,⟨ "Shares",75,1,false, "", "",8⟩],2,32,.agg [.int .i64 0,.nilS],.agg #[.int .i64 0,.slice none 0 0],none,true,false⟩:=by kernel_rfl
@[simp] theorem T_78:T 78=some ⟨.slice 200,1,24,.nilS,.slice none 0 0,none,false,false⟩:=by kernel_rfl
@[simp] theorem T_80:T 80=some ⟨.struct #[⟨ "ID",2,0,false, "", "",0⟩,⟨ "Values",78,1,false, "", "",8⟩],2,32,.agg [.int .i64 0,.nilS],.agg #[.int .i64 0,.slice none 0 0],none,true,false⟩:=by kernel_rfl
@[simp] theorem T_84:T 84=some ⟨.int .i8,1,1,.int .i8 0,.int .i8 0,some (.int .i8),false,false⟩:=by kernel_rfl
@[simp] theorem T_86:T 86=some ⟨.struct #[⟨ "Kind",5,0,false, "", "",0⟩,⟨ "At",5,1,false, "", "",1⟩,⟨ "By",84,2,false, "", "",2⟩],3,3,.agg [.int .u8 0,.int .u8 0,.int .i8 0],.agg #[.int .u8 0,.int .u8 0,.int .i8 0],none,true,false⟩:=by kernel_rfl
@[simp] theorem T_87:T 87=some ⟨.array 2 86,6,6,.agg [.int .u8 0,.int .u8 0,.int .i8 0,.int .u8 0,.int .u8 0,.int .i8 0],.agg #[.int .u8 0,.int .u8 0,.int .i8 0,.int .u8 0,.int .u8 0,.int .i8 0],none,true,false⟩:=by kernel_rfl
@[simp] theorem T_91:T 91=some ⟨.struct #[⟨ "L",5,0,false, "", "",0⟩,⟨ "R",5,1,false, "", "",1⟩],2,2,.agg [.int .u8 0,.int .u8 0],.agg #[.int .u8 0,.int .u8 0],none,true,false⟩:=by kernel_rfl
@[simp] theorem T_93:T 93=some ⟨.struct #[⟨ "Lhs",5,0,false, "", "",0⟩,⟨ "Rhs",5,1,false, "", "",1⟩,⟨ "Codes",26,2,false, "", "",8⟩],3,32,.agg [.int .u8 0,.int .u8 0,.nilS],.agg #[.int .u8 0,.int .u8 0,.slice none 0 0],none,true,false⟩:=by kernel_rfl
@[simp] theorem T_95:T 95=some ⟨.struct #[⟨ "X",26,0,false, "", "",0⟩,⟨ "Y",26,1,false, "", "",24⟩],2,48,.agg [.nilS,.nilS],.agg #[.slice none 0 0,.slice none 0 0],none,true,false⟩:=by kernel_rfl
@[simp] theorem T_96:T 96=some ⟨.slice 208,1,24,.nilS,.slice none 0 0,none,false,false⟩:=by kernel_rfl
@[simp] theorem T_98:T 98=some ⟨.struct #[⟨ "Vars",5,0,false, "", "",0⟩,⟨ "Atoms",96,1,false, "", "",8⟩],2,32,.agg [.int .u8 0,.nilS],.agg #[.int .u8 0,.slice none 0 0],none,true,false⟩:=by kernel_rfl
@[simp] theorem T_100:T 100=some ⟨.struct #[⟨ "Kind",5,0,false, "", "",0⟩,⟨ "F",91,1,false, "", "",1⟩,⟨ "C",93,3,false, "", "",8⟩,⟨ "O",95,6,false, "", "",40⟩,⟨ "N",98,8,false, "", "",88⟩],10,120,.agg [.int .u8 0,.int .u8 0,.int .u8 0,.int .u8 0,.int .u8 0,.nilS,.nilS,.nilS,.int .u8 0,.nilS],.agg #[.int .u8 0,.int .u8 0,.int .u8 0,.int .u8 0,.int .u8 0,.slice none 0 0,.slice none 0 0,.slice none 0 0,.int .u8 0,.slice none 0 0],none,true,false⟩:=by kernel_rfl
@[simp] theorem T_108:T 108=some ⟨.array 2 34,2,48,.agg [.nilS,.nilS],.agg #[.slice none 0 0,.slice none 0 0],none,true,false⟩:=by kernel_rfl
@[simp] theorem T_112:T 112=some ⟨.func #[34,34] #[4] false,1,8,.nilFn,.nilFunc,none,false,false⟩:=by kernel_rfl
@[simp] theorem T_121:T 121=some ⟨.struct #[⟨ "Edge",3,0,false, "", "",0⟩,⟨ "Amount",2,1,false, "", "",8⟩],2,16,.agg [.int .i64 0,.int .i64 0],.agg #[.int .i64 0,.int .i64 0],none,true,false⟩:=by kernel_rfl
@[simp] theorem T_122:T 122=some ⟨.slice 34,1,24,.nilS,.slice none 0 0,none,false,false⟩:=by kernel_rfl
@[simp] theorem T_124:T 124=some ⟨.struct #[⟨ "Vertices",34,0,false, "", "",0⟩,⟨ "Edges",122,1,false, "", "",24⟩],2,48,.agg [.nilS,.nilS],.agg #[.slice none 0 0,.slice none 0 0],none,true,false⟩:=by kernel_rfl
@[simp] theorem T_152:T 152=some ⟨.slice 48,1,24,.nilS,.slice none 0 0,none,false,false⟩:=by kernel_rfl
@[simp] theorem T_154:T 154=some ⟨.slice 91,1,24,.nilS,.slice none 0 0,none,false,false⟩:=by kernel_rfl
@[simp] theorem T_162:T 162=some ⟨.func #[2] #[4] false,1,8,.nilFn,.nilFunc,none,false,false⟩:=by kernel_rfl
@[simp] theorem T_166:T 166=some ⟨.slice 60,1,24,.nilS,.slice none 0 0,none,false,false⟩:=by kernel_rfl
@[simp] theorem T_172:T 172=some ⟨.int .u64,1,8,.int .u64 0,.int .u64 0,some (.int .u64),false,false⟩:=by kernel_rfl
@[simp] theorem T_175:T 175=some ⟨.pointer 177,1,8,.nilP,.pointer none,none,false,false⟩:=by kernel_rfl
@[simp] theorem T_177:T 177=some ⟨.struct #[⟨ "l",50,0,false, "", "dross/hitset",0⟩,⟨ "weight",2,1,false, "", "dross/hitset",24⟩],2,32,.agg [.nilS,.int .i64 0],.agg #[.slice none 0 0,.int .i64 0],none,true,false⟩:=by kernel_rfl
@[simp] theorem T_178:T 178=some ⟨.pointer 244,1,8,.nilP,.pointer none,none,false,false⟩:=by kernel_rfl
@[simp] theorem T_182:T 182=some ⟨.func #[34] #[4] false,1,8,.nilFn,.nilFunc,none,false,false⟩:=by kernel_rfl
@[simp] theorem T_187:T 187=some ⟨.struct #[⟨ "Chosen",50,0,false, "", "",0⟩,⟨ "Excluded",50,1,false, "", "",24⟩,⟨ "Bound",2,2,false, "", "",48⟩],3,56,.agg [.nilS,.nilS,.int .i64 0],.agg #[.slice none 0 0,.slice none 0 0,.int .i64 0],none,true,false⟩:=by kernel_rfl
@[simp] theorem T_189:T 189=some ⟨.func #[80] #[4] false,1,8,.nilFn,.nilFunc,none,false,false⟩:=by kernel_rfl
@[simp] theorem T_192:T 192=some ⟨.func #[3] #[4] false,1,8,.nilFn,.nilFunc,none,false,false⟩:=by kernel_rfl
@[simp] theorem T_193:T 193=some ⟨.func #[50] #[4] false,1,8,.nilFn,.nilFunc,none,false,false⟩:=by kernel_rfl
@[simp] theorem T_200:T 200=some ⟨.struct #[⟨ "Kind",3,0,false, "", "",0⟩,⟨ "Num",2,1,false, "", "",8⟩,⟨ "Str",9,2,false, "", "",16⟩],3,32,.agg [.int .i64 0,.int .i64 0,.str pE],.agg #[.int .i64 0,.int .i64 0,.string pE],none,true,false⟩:=by kernel_rfl
@[simp] theorem T_202:T 202=some ⟨.struct #[⟨ "Any",4,0,false, "", "",0⟩,⟨ "Value",200,1,false, "", "",8⟩],4,40,.agg [.bool false,.int .i64 0,.int .i64 0,.str pE],.agg #[.bool false,.int .i64 0,.int .i64 0,.string pE],none,true,false⟩:=by kernel_rfl
@[simp] theorem T_206:T 206=some ⟨.struct #[⟨ "Var",5,0,false, "", "",0⟩,⟨ "Code",5,1,false, "", "",1⟩],2,2,.agg [.int .u8 0,.int .u8 0],.agg #[.int .u8 0,.int .u8 0],none,true,false⟩:=by kernel_rfl
@[simp] theorem T_208:T 208=some ⟨.struct #[⟨ "Left",206,0,false, "", "",0⟩,⟨ "Op",5,2,false, "", "",2⟩,⟨ "Right",206,3,false, "", "",3⟩],5,5,.agg [.int .u8 0,.int .u8 0,.int .u8 0,.int .u8 0,.int .u8 0],.agg #[.int .u8 0,.int .u8 0,.int .u8 0,.int .u8 0,.int .u8 0],none,true,false⟩:=by kernel_rfl
@[simp] theorem T_210:T 210=some ⟨.struct #[⟨ "Var",3,0,false, "", "",0⟩,⟨ "Attr",3,1,false, "", "",8⟩,⟨ "Value",200,2,false, "", "",16⟩],5,48,.agg [.int .i64 0,.int .i64 0,.int .i64 0,.int .i64 0,.str pE],.agg #[.int .i64 0,.int .i64 0,.int .i64 0,.int .i64 0,.string pE],none,true,false⟩:=by kernel_rfl
@[simp] theorem T_213:T 213=some ⟨.struct #[⟨ "Left",210,0,false, "", "",0⟩,⟨ "Op",3,5,false, "", "",48⟩,⟨ "Right",210,6,false, "", "",56⟩],11,104,.agg [.int .i64 0,.int .i64 0,.int .i64 0,.int .i64 0,.str pE,.int .i64 0,.int .i64 0,.int .i64 0,.int .i64 0,.int .i64 0,.str pE],.agg #[.int .i64 0,.int .i64 0,.int .i64 0,.int .i64 0,.string pE,.int .i64 0,.int .i64 0,.int .i64 0,.int .i64 0,.int .i64 0,.string pE],none,true,false⟩:=by kernel_rfl
@[simp] theorem T_219:T 219=some ⟨.func #[3,3] #[3] false,1,8,.nilFn,.nilFunc,none,false,false⟩:=by kernel_rfl
@[simp] theorem T_234:T 234=some ⟨.map 235 4,1,8,.nilM,.map none,none,false,false⟩:=by kernel_rfl
@[simp] theorem T_235:T 235=some ⟨.array 3 2,3,24,.agg [.int .i64 0,.int .i64 0,.int .i64 0],.agg #[.int .i64 0,.int .i64 0,.int .i64 0],some (.arr 3),true,false⟩:=by kernel_rfl
@[simp] theorem T_239:T 239=some ⟨.func #[34,34] #[3] false,1,8,.nilFn,.nilFunc,none,false,false⟩:=by kernel_rfl
@[simp] theorem T_244:T 244=some ⟨.struct #[⟨ "in",40,0,false, "", "dross/hitset",0⟩,⟨ "marks",50,2,false, "", "dross/hitset",48⟩,⟨ "left",3,3,false, "", "dross/hitset",72⟩],4,80,.agg [.nilS,.nilS,.nilS,.int .i64 0],.agg #[.slice none 0 0,.slice none 0 0,.slice none 0 0,.int .i64 0],none,true,false⟩:=by kernel_rfl
@[simp] theorem T_254:T 254=some ⟨.int .i64,1,8,.int .i64 0,.int .i64 0,some (.int .i64),false,false⟩:=by kernel_rfl
@[simp] theorem T_262:T 262=some ⟨.int .u64,1,8,.int .u64 0,.int .u64 0,some (.int .u64),false,false⟩:=by kernel_rfl
@[simp] theorem T_268:T 268=some ⟨.func #[200] #[4] false,1,8,.nilFn,.nilFunc,none,false,false⟩:=by kernel_rfl
@[simp] theorem T_274:T 274=some ⟨.func #[213] #[4] false,1,8,.nilFn,.nilFunc,none,false,false⟩:=by kernel_rfl
@[simp] theorem T_276:T 276=some ⟨.func #[202] #[4] false,1,8,.nilFn,.nilFunc,none,false,false⟩:=by kernel_rfl
@[simp] theorem T_286:T 286=some ⟨.func #[30] #[4] false,1,8,.nilFn,.nilFunc,none,false,false⟩:=by kernel_rfl
@[simp] theorem T_294:T 294=some ⟨.slice 30,1,24,.nilS,.slice none 0 0,none,false,false⟩:=by kernel_rfl
@[simp] theorem T_299:T 299=some ⟨.slice 66,1,24,.nilS,.slice none 0 0,none,false,false⟩:=by kernel_rfl
@[simp] theorem T_301:T 301=some ⟨.int .u64,1,8,.int .u64 0,.int .u64 0,some (.int .u64),false,false⟩:=by kernel_rfl
@[simp] theorem T_305:T 305=some ⟨.pointer 3,1,8,.nilP,.pointer none,none,false,false⟩:=by kernel_rfl
@[simp] theorem T_333:T 333=some ⟨.pointer 301,1,8,.nilP,.pointer none,none,false,false⟩:=by kernel_rfl
@[simp] theorem T_338:T 338=some ⟨.array 32 5,32,32,.agg [.int .u8 0,.int .u8 0,.int .u8 0,.int .u8 0,.int .u8 0,.int .u8 0,.int .u8 0,.int .u8 0,.int .u8 0,.int .u8 0,.int .u8 0,.int .u8 0,.int .u8 0,.int .u8 0,.int .u8 0,.int .u8 0,.int .u8 0,.int .u8 0,.int .u8 0,.int .u8 0,.int .u8 0,.int .u8 0,.int .u8 0,.int .u8 0,.int .u8 0,.int .u8 0,.int .u8 0,.int .u8 0,.int .u8 0,.int .u8 0,.int .u8 0,.int .u8 0],.agg #[.int .u8 0,.int .u8 0,.int .u8 0,.int .u8 0,.int .u8 0,.int .u8 0,.int .u8 0,.int .u8 0,.int .u8 0,.int .u8 0,.int .u8 0,.int .u8 0,.int .u8 0,.int .u8 0,.int .u8 0,.int .u8 0,.int .u8 0,.int .u8 0,.int .u8 0,.int .u8 0,.int .u8 0,.int .u8 0,.int .u8 0,.int .u8 0,.int .u8 0,.int .u8 0,.int .u8 0,.int .u8 0,.int .u8 0,.int .u8 0,.int .u8 0,.int .u8 0],none,true,false⟩:=by kernel_rfl
theorem tok:TOk Tryz.prog T:=mk_ok
end
end Go.Proofs.YtjogkbekekdkjaaGreatDoor
