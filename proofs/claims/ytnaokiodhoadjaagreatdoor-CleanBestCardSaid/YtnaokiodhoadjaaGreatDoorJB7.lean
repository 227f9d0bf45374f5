/- JB7: texts Ty, joined and shortened by pack6.py. -/
import Derived.Test.YtnaokiodhoadjaaGreatDoorJB5
import Derived.Test.YtnaokiodhoadjaaGreatDoorProg
import Derived.KernelRfl
set_option linter.all false
set_option maxRecDepth 100000
set_option maxHeartbeats 64000000
open ByteArray renaming empty→tp
namespace Go.Proofs.YtnaokiodhoadjaaGreatDoor
section
open Go Go.AM Go.Proofs.Tryz
noncomputable def T:Ty:=mkTI prog
@[simp] theorem T_2:T 2=some ⟨.int .i64,1,8,.int .i64 0,.int .i64 0,some (.int .i64),false,false⟩:=by kernel_rfl
@[simp] theorem T_3:T 3=some ⟨.int .i64,1,8,.int .i64 0,.int .i64 0,some (.int .i64),false,false⟩:=by kernel_rfl
@[simp] theorem T_4:T 4=some ⟨.bool,1,1,.bool false,.bool false,some .bool,false,false⟩:=by kernel_rfl
@[simp] theorem T_5:T 5=some ⟨.int .u8,1,1,.int .u8 0,.int .u8 0,some (.int .u8),false,false⟩:=by kernel_rfl
@[simp] theorem T_9:T 9=some ⟨.string,1,16,.str tp,.string tp,some .str,false,false⟩:=by kernel_rfl
@[simp] theorem T_22:T 22=some ⟨.slice 107,1,24,.nilS,.slice none 0 0,none,false,false⟩:=by kernel_rfl
@[simp] theorem T_24:T 24=some ⟨.struct #[⟨ "Attrs",5,0,false, "", "",0⟩,⟨ "Gap",5,1,false, "", "",1⟩,⟨ "Rows",22,2,false, "", "",8⟩],3,32,.agg [.int .u8 0,.int .u8 0,.nilS],.agg #[.int .u8 0,.int .u8 0,.slice none 0 0],none,true,false⟩:=by kernel_rfl
@[simp] theorem T_25:T 25=some ⟨.slice 111,1,24,.nilS,.slice none 0 0,none,false,false⟩:=by kernel_rfl
@[simp] theorem T_27:T 27=some ⟨.struct #[⟨ "T",24,0,false, "", "",0⟩,⟨ "F",25,3,false, "", "",32⟩],4,56,.agg [.int .u8 0,.int .u8 0,.nilS,.nilS],.agg #[.int .u8 0,.int .u8 0,.slice none 0 0,.slice none 0 0],none,true,false⟩:=by kernel_rfl
@[simp] theorem T_28:T 28=some ⟨.slice 9,1,24,.nilS,.slice none 0 0,none,false,false⟩:=by kernel_rfl
@[simp] theorem T_29:T 29=some ⟨.slice 71,1,24,.nilS,.slice none 0 0,none,false,false⟩:=by kernel_rfl
@[simp] theorem T_31:T 31=some ⟨.struct #[⟨ "Name",9,0,false, "", "",0⟩,⟨ "Attrs",28,1,false, "", "",16⟩,⟨ "Rows",29,2,false, "", "",40⟩],3,64,.agg [.str tp,.nilS,.nilS],.agg #[.string tp,.slice none 0 0,.slice none 0 0],none,true,false⟩:=by kernel_rfl
@[simp] theorem T_32:T 32=some ⟨.slice 40,1,24,.nilS,.slice none 0 0,none,false,false⟩:=by kernel_rfl
@[simp] theorem T_36:T 36=some ⟨.slice 54,1,24,.nilS,.slice none 0 0,none,false,false⟩:=by kernel_rfl
@[simp] theorem T_38:T 38=some ⟨.int .u32,1,4,.int .u32 0,.int .u32 0,some (.int .u32),false,false⟩:=by kernel_rfl
@[simp] theorem T_40:T 40=some ⟨.struct #[⟨ "Lhs",38,0,false, "", "",0⟩,⟨ "Rhs",38,1,false, "", "",4⟩],2,8,.agg [.int .u32 0,.int .u32 0],.agg #[.int .u32 0,.int .u32 0],none,true,false⟩:=by kernel_rfl
@[simp] theorem T_41:T 41=some ⟨.struct #[⟨ "Lhs",38,0,false, "", "",0⟩,⟨ "Rhs",38,1,false, "", "",4⟩],2,8,.agg [.int .u32 0,.int .u32 0],.agg #[.int .u32 0,.int .u32 0],none,true,false⟩:=by kernel_rfl
@[simp] theorem T_42:T 42=some ⟨.slice 3,1,24,.nilS,.slice none 0 0,none,false,false⟩:=by kernel_rfl
@[simp] theorem T_44:T 44=some ⟨.struct #[⟨ "From",9,0,false, "", "",0⟩,⟨ "Lhs",42,1,false, "", "",16⟩,⟨ "To",9,2,false, "", "",40⟩,⟨ "Rhs",42,3,false, "", "",56⟩],4,80,.agg [.str tp,.nilS,.str tp,.nilS],.agg #[.string tp,.slice none 0 0,.string tp,.slice none 0 0],none,true,false⟩:=by kernel_rfl
@[simp] theorem T_45:T 45=some ⟨.slice 283,1,24,.nilS,.slice none 0 0,none,false,false⟩:=by kernel_rfl
@[simp] theorem T_47:T 47=some ⟨.struct #[⟨ "Lhs",42,0,false, "", "",0⟩,⟨ "Rhs",3,1,false, "", "",24⟩,⟨ "Pattern",45,2,false, "", "",32⟩],3,56,.agg [.nilS,.int .i64 0,.nilS],.agg #[.slice none 0 0,.int .i64 0,.slice none 0 0],none,true,false⟩:=by kernel_rfl
@[simp] theorem T_49:T 49=some ⟨.struct #[⟨ "Lhs",42,0,false, "", "",0⟩,⟨ "Rhs",42,1,false, "", "",24⟩],2,48,.agg [.nilS,.nilS],.agg #[.slice none 0 0,.slice none 0 0],none,true,false⟩:=by kernel_rfl
@[simp] theorem T_50:T 50=some ⟨.slice 290,1,24,.nilS,.slice none 0 0,none,false,false⟩:=by kernel_rfl
@[simp] theorem T_52:T 52=some ⟨.struct #[⟨ "Vars",3,0,false, "", "",0⟩,⟨ "Atoms",50,1,false, "", "",8⟩],2,32,.agg [.int .i64 0,.nilS],.agg #[.int .i64 0,.slice none 0 0],none,true,false⟩:=by kernel_rfl
@[simp] theorem T_54:T 54=some ⟨.struct #[⟨ "Name",9,0,false, "", "",0⟩,⟨ "Table",9,1,false, "", "",16⟩,⟨ "Kind",3,2,false, "", "",32⟩,⟨ "FD",40,3,false, "", "",40⟩,⟨ "MVD",41,5,false, "", "",48⟩,⟨ "IND",44,7,false, "", "",56⟩,⟨ "CFD",47,11,false, "", "",136⟩,⟨ "OD",49,14,false, "", "",192⟩,⟨ "Denial",52,16,false, "", "",240⟩],18,272,.agg [.str tp,.str tp,.int .i64 0,.int .u32 0,.int .u32 0,.int .u32 0,.int .u32 0,.str tp,.nilS,.str tp,.nilS,.nilS,.int .i64 0,.nilS,.nilS,.nilS,.int .i64 0,.nilS],.agg #[.string tp,.string tp,.int .i64 0,.int .u32 0,.int .u32 0,.int .u32 0,.int .u32 0,.string tp,.slice none 0 0,.string tp,.slice none 0 0,.slice none 0 0,.int .i64 0,.slice none 0 0,.slice none 0 0,.slice none 0 0,.int .i64 0,.slice none 0 0],none,true,false⟩:=by kernel_rfl
@[simp] theorem T_58:T 58=some ⟨.slice 2,1,24,.nilS,.slice none 0 0,none,false,false⟩:=by kernel_rfl
@[simp] theorem T_59:T 59=some ⟨.slice 42,1,24,.nilS,.slice none 0 0,none,false,false⟩:=by kernel_rfl
@[simp] theorem T_61:T 61=some ⟨.struct #[⟨ "Weights",58,0,false, "", "",0⟩,⟨ "Edges",59,1,false, "", "",24⟩],2,48,.agg [.nilS,.nilS],.agg #[.slice none 0 0,.slice none 0 0],none,true,false⟩:=by kernel_rfl
@[simp] theorem T_69:T 69=some ⟨.slice 77,1,24,.nilS,.slice none 0 0,none,false,false⟩:=by kernel_rfl
@[simp] theorem T_71:T 71=some ⟨.struct #[⟨ "ID",2,0,false, "", "",0⟩,⟨ "Values",69,1,false, "", "",8⟩],2,32,.agg [.int .i64 0,.nilS],.agg #[.int .i64 0,.slice none 0 0],none,true,false⟩:=by kernel_rfl
@[simp] theorem T_77:T 77=some ⟨.struct #[⟨ "Kind",3,0,false, "", "",0⟩,⟨ "Num",2,1,false, "", "",8⟩,⟨ "Str",9,2,false, "", "",16⟩],3,32,.agg [.int .i64 0,.int .i64 0,.str tp],.agg #[.int .i64 0,.int .i64 0,.string tp],none,true,false⟩:=by kernel_rfl
@[simp] theorem T_80:T 80=some ⟨.slice 212,1,24,.nilS,.slice none 0 0,none,false,false⟩:=by kernel_rfl
@[simp] theorem T_82:T 82=some ⟨.struct #[⟨ "Deleted",58,0,false, "", "",0⟩,⟨ "Weight",2,1,false, "", "",24⟩,⟨ "Proof",80,2,false, "", "",32⟩],3,56,.agg [.nilS,.int .i64 0,.nilS],.agg #[.slice none 0 0,.int .i64 0,.slice none 0 0],none,true,false⟩:=by kernel_rfl
@[simp] theorem T_85:T 85=some ⟨.slice 101,1,24,.nilS,.slice none 0 0,none,false,false⟩:=by kernel_rfl
@[simp] theorem T_86:T 86=some ⟨.slice 85,1,24,.nilS,.slice none 0 0,none,false,false⟩:=by kernel_rfl
@[simp] theorem T_88:T 88=some ⟨.struct #[⟨ "Cells",85,0,false, "", "",0⟩,⟨ "Table",31,1,false, "", "",24⟩,⟨ "Cores",86,4,false, "", "",88⟩,⟨ "Proof",80,5,false, "", "",112⟩],6,136,.agg [.nilS,.str tp,.nilS,.nilS,.nilS,.nilS],.agg #[.slice none 0 0,.string tp,.slice none 0 0,.slice none 0 0,.slice none 0 0,.slice none 0 0],none,true,false⟩:=by kernel_rfl
@[simp] theorem T_91:T 91=some ⟨.slice 58,1,24,.nilS,.slice none 0 0,none,false,false⟩:=by kernel_rfl
@[simp] theorem T_93:T 93=some ⟨.struct #[⟨ "Vertices",58,0,false, "", "",0⟩,⟨ "Edges",91,1,false, "", "",24⟩],2,48,.agg [.nilS,.nilS],.agg #[.slice none 0 0,.slice none 0 0],none,true,false⟩:=by kernel_rfl
@[simp] theorem T_101:T 101=some ⟨.struct #[⟨ "ID",2,0,false, "", "",0⟩,⟨ "Attr",3,1,false, "", "",8⟩],2,16,.agg [.int .i64 0,.int .i64 0],.agg #[.int .i64 0,.int .i64 0],none,true,false⟩:=by kernel_rfl
@[simp] theorem T_107:T 107=some ⟨.slice 5,1,24,.nilS,.slice none 0 0,none,false,false⟩:=by kernel_rfl
@[simp] theorem T_111:T 111=some ⟨.struct #[⟨ "L",5,0,false, "", "",0⟩,⟨ "R",5,1,false, "", "",1⟩],2,2,.agg [.int .u8 0,.int .u8 0],.agg #[.int .u8 0,.int .u8 0],none,true,false⟩:=by kernel_rfl
@[simp] theorem T_133:T 133=some ⟨.slice 187,1,24,.nilS,.slice none 0 0,none,false,false⟩:=by kernel_rfl
@[simp] theorem T_152:T 152=some ⟨.struct #[⟨ "l",42,0,false, "", "dross/hitset",0⟩,⟨ "weight",2,1,false, "", "dross/hitset",24⟩],2,32,.agg [.nilS,.int .i64 0],.agg #[.slice none 0 0,.int .i64 0],none,true,false⟩:=by kernel_rfl
@[simp] theorem T_153:T 153=some ⟨.pointer 206,1,8,.nilP,.pointer none,none,false,false⟩:=by kernel_rfl
@[simp] theorem T_167:T 167=some ⟨.map 2 4,1,8,.nilM,.map none,none,false,false⟩:=by kernel_rfl
@[simp] theorem T_169:T 169=some ⟨.map 3 77,1,8,.nilM,.map none,none,false,false⟩:=by kernel_rfl
@[simp] theorem T_171:T 171=some ⟨.slice 174,1,24,.nilS,.slice none 0 0,none,false,false⟩:=by kernel_rfl
@[simp] theorem T_173:T 173=some ⟨.struct #[⟨ "n",3,0,false, "", "dross/update",0⟩,⟨ "parent",42,1,false, "", "dross/update",8⟩,⟨ "known",171,2,false, "", "dross/update",32⟩],3,56,.agg [.int .i64 0,.nilS,.nilS],.agg #[.int .i64 0,.slice none 0 0,.slice none 0 0],none,true,false⟩:=by kernel_rfl
@[simp] theorem T_174:T 174=some ⟨.pointer 77,1,8,.nilP,.pointer none,none,false,false⟩:=by kernel_rfl
@[simp] theorem T_179:T 179=some ⟨.int .u64,1,8,.int .u64 0,.int .u64 0,some (.int .u64),false,false⟩:=by kernel_rfl
@[simp] theorem T_187:T 187=some ⟨.slice 190,1,24,.nilS,.slice none 0 0,none,false,false⟩:=by kernel_rfl
@[simp] theorem T_190:T 190=some ⟨.struct #[⟨ "V",77,0,false, "", "",0⟩,⟨ "Symbol",3,3,false, "", "",32⟩],4,40,.agg [.int .i64 0,.int .i64 0,.str tp,.int .i64 0],.agg #[.int .i64 0,.int .i64 0,.string tp,.int .i64 0],none,true,false⟩:=by kernel_rfl
@[simp] theorem T_195:T 195=some ⟨.slice 52,1,24,.nilS,.slice none 0 0,none,false,false⟩:=by kernel_rfl
@[simp] theorem T_206:T 206=some ⟨.struct #[⟨ "in",61,0,false, "", "dross/hitset",0⟩,⟨ "marks",42,2,false, "", "dross/hitset",48⟩,⟨ "left",3,3,false, "", "dross/hitset",72⟩],4,80,.agg [.nilS,.nilS,.nilS,.int .i64 0],.agg #[.slice none 0 0,.slice none 0 0,.slice none 0 0,.int .i64 0],none,true,false⟩:=by kernel_rfl
@[simp] theorem T_207:T 207=some ⟨.slice 265,1,24,.nilS,.slice none 0 0,none,false,false⟩:=by kernel_rfl
@[simp] theorem T_212:T 212=some ⟨.struct #[⟨ "Vertex",3,0,false, "", "",0⟩,⟨ "Shares",207,1,false, "", "",8⟩],2,32,.agg [.int .i64 0,.nilS],.agg #[.int .i64 0,.slice none 0 0],none,true,false⟩:=by kernel_rfl
@[simp] theorem T_238:T 238=some ⟨.slice 29,1,24,.nilS,.slice none 0 0,none,false,false⟩:=by kernel_rfl
@[simp] theorem T_250:T 250=some ⟨.map 251 4,1,8,.nilM,.map none,none,false,false⟩:=by kernel_rfl
@[simp] theorem T_251:T 251=some ⟨.array 3 2,3,24,.agg [.int .i64 0,.int .i64 0,.int .i64 0],.agg #[.int .i64 0,.int .i64 0,.int .i64 0],some (.arr 3),true,false⟩:=by kernel_rfl
@[simp] theorem T_265:T 265=some ⟨.struct #[⟨ "Edge",3,0,false, "", "",0⟩,⟨ "Amount",2,1,false, "", "",8⟩],2,16,.agg [.int .i64 0,.int .i64 0],.agg #[.int .i64 0,.int .i64 0],none,true,false⟩:=by kernel_rfl
@[simp] theorem T_266:T 266=some ⟨.slice 80,1,24,.nilS,.slice none 0 0,none,false,false⟩:=by kernel_rfl
@[simp] theorem T_283:T 283=some ⟨.struct #[⟨ "Any",4,0,false, "", "",0⟩,⟨ "Value",77,1,false, "", "",8⟩],4,40,.agg [.bool false,.int .i64 0,.int .i64 0,.str tp],.agg #[.bool false,.int .i64 0,.int .i64 0,.string tp],none,true,false⟩:=by kernel_rfl
@[simp] theorem T_288:T 288=some ⟨.struct #[⟨ "Var",3,0,false, "", "",0⟩,⟨ "Attr",3,1,false, "", "",8⟩,⟨ "Value",77,2,false, "", "",16⟩],5,48,.agg [.int .i64 0,.int .i64 0,.int .i64 0,.int .i64 0,.str tp],.agg #[.int .i64 0,.int .i64 0,.int .i64 0,.int .i64 0,.string tp],none,true,false⟩:=by kernel_rfl
@[simp] theorem T_290:T 290=some ⟨.struct #[⟨ "Left",288,0,false, "", "",0⟩,⟨ "Op",3,5,false, "", "",48⟩,⟨ "Right",288,6,false, "", "",56⟩],11,104,.agg [.int .i64 0,.int .i64 0,.int .i64 0,.int .i64 0,.str tp,.int .i64 0,.int .i64 0,.int .i64 0,.int .i64 0,.int .i64 0,.str tp],.agg #[.int .i64 0,.int .i64 0,.int .i64 0,.int .i64 0,.string tp,.int .i64 0,.int .i64 0,.int .i64 0,.int .i64 0,.int .i64 0,.string tp],none,true,false⟩:=by kernel_rfl
def tok:TOk prog T:=mk_ok
end
end Go.Proofs.YtnaokiodhoadjaaGreatDoor
