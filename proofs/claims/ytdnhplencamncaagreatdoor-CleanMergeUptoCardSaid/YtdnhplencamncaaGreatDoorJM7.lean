/- JM7: own texts of this seat, joined and shortened by pack4.py: Ty. -/
import Derived.Test.YtdnhplencamncaaGreatDoorJM5
import Derived.Test.YtdnhplencamncaaGreatDoorProg
import Derived.KernelRfl
set_option linter.unusedVariables false
set_option linter.unusedSimpArgs false
set_option maxRecDepth 100000
set_option maxHeartbeats 64000000
open ByteArray renaming empty→oF
namespace Go.Proofs.YtdnhplencamncaaGreatDoor
section
open Go Go.AM
noncomputable def T:Ty:=mkTI Tryz.prog
@[simp] theorem T_1:T 1=some ⟨.func #[] #[] false,1,8,.nilFn,.nilFunc,none,false,false⟩:=by kernel_rfl
@[simp] theorem T_2:T 2=some ⟨.int .i64,1,8,.int .i64 0,.int .i64 0,some (.int .i64),false,false⟩:=by kernel_rfl
@[simp] theorem T_3:T 3=some ⟨.int .i64,1,8,.int .i64 0,.int .i64 0,some (.int .i64),false,false⟩:=by kernel_rfl
@[simp] theorem T_4:T 4=some ⟨.bool,1,1,.bool false,.bool false,some .bool,false,false⟩:=by kernel_rfl
@[simp] theorem T_5:T 5=some ⟨.int .u8,1,1,.int .u8 0,.int .u8 0,some (.int .u8),false,false⟩:=by kernel_rfl
@[simp] theorem T_6:T 6=some ⟨.int .u8,1,1,.int .u8 0,.int .u8 0,some (.int .u8),false,false⟩:=by kernel_rfl
@[simp] theorem T_7:T 7=some ⟨.struct #[⟨ "x",2,0,false, "", "runtime",0⟩,⟨ "y",3,1,false, "", "runtime",8⟩,⟨ "signed",4,2,false, "", "runtime",16⟩,⟨ "code",6,3,false, "", "runtime",17⟩],4,24,.agg [.int .i64 0,.int .i64 0,.bool false,.int .u8 0],.agg #[.int .i64 0,.int .i64 0,.bool false,.int .u8 0],none,true,false⟩:=by kernel_rfl
@[simp] theorem T_8:T 8=some ⟨.struct #[⟨ "x",2,0,false, "", "runtime",0⟩,⟨ "y",3,1,false, "", "runtime",8⟩,⟨ "signed",4,2,false, "", "runtime",16⟩,⟨ "code",6,3,false, "", "runtime",17⟩],4,24,.agg [.int .i64 0,.int .i64 0,.bool false,.int .u8 0],.agg #[.int .i64 0,.int .i64 0,.bool false,.int .u8 0],none,true,false⟩:=by kernel_rfl
@[simp] theorem T_9:T 9=some ⟨.string,1,16,.str oF,.string oF,some .str,false,false⟩:=by kernel_rfl
@[simp] theorem T_10:T 10=some ⟨.string,1,16,.str oF,.string oF,some .str,false,false⟩:=by kernel_rfl
@[simp] theorem T_11:T 11=some ⟨.string,1,16,.str oF,.string oF,some .str,false,false⟩:=by kernel_rfl
@[simp] theorem T_12:T 12=some ⟨.int .u64,1,8,.int .u64 0,.int .u64 0,some (.int .u64),false,false⟩:=by kernel_rfl
@[simp] theorem T_13:T 13=some ⟨.struct #[⟨ "msg",9,0,false, "", "runtime",0⟩,⟨ "addr",12,1,false, "", "runtime",16⟩],2,24,.agg [.str oF,.int .u64 0],.agg #[.string oF,.int .u64 0],none,false,false⟩:=by kernel_rfl
@[simp] theorem T_14:T 14=some ⟨.struct #[⟨ "msg",9,0,false, "", "runtime",0⟩,⟨ "addr",12,1,false, "", "runtime",16⟩],2,24,.agg [.str oF,.int .u64 0],.agg #[.string oF,.int .u64 0],none,false,false⟩:=by kernel_rfl
@[simp] theorem T_15:T 15=some ⟨.pointer 489,1,8,.nilP,.pointer none,none,false,false⟩:=by kernel_rfl
@[simp] theorem T_16:T 16=some ⟨.pointer 492,1,8,.nilP,.pointer none,none,false,false⟩:=by kernel_rfl
@[simp] theorem T_17:T 17=some ⟨.pointer 499,1,8,.nilP,.pointer none,none,false,false⟩:=by kernel_rfl
@[simp] theorem T_18:T 18=some ⟨.struct #[⟨ "typ",17,0,false, "", "internal/runtime/maps",0⟩],1,8,.agg [.nilP],.agg #[.pointer none],none,false,false⟩:=by kernel_rfl
@[simp] theorem T_19:T 19=some ⟨.struct #[⟨ "typ",17,0,false, "", "internal/runtime/maps",0⟩],1,8,.agg [.nilP],.agg #[.pointer none],none,false,false⟩:=by kernel_rfl
@[simp] theorem T_20:T 20=some ⟨.interface #[],1,16,.nilI,.nilIface,none,false,false⟩:=by kernel_rfl
@[simp] theorem T_21:T 21=some ⟨.int .i32,1,4,.int .i32 0,.int .i32 0,some (.int .i32),false,false⟩:=by kernel_rfl
@[simp] theorem T_22:T 22=some ⟨.slice 99,1,24,.nilS,.slice none 0 0,none,false,false⟩:=by kernel_rfl
@[simp] theorem T_23:T 23=some ⟨.struct #[⟨ "Attrs",5,0,false, "", "",0⟩,⟨ "Gap",5,1,false, "", "",1⟩,⟨ "Rows",22,2,false, "", "",8⟩],3,32,.agg [.int .u8 0,.int .u8 0,.nilS],.agg #[.int .u8 0,.int .u8 0,.slice none 0 0],none,true,false⟩:=by kernel_rfl
@[simp] theorem T_24:T 24=some ⟨.struct #[⟨ "Attrs",5,0,false, "", "",0⟩,⟨ "Gap",5,1,false, "", "",1⟩,⟨ "Rows",22,2,false, "", "",8⟩],3,32,.agg [.int .u8 0,.int .u8 0,.nilS],.agg #[.int .u8 0,.int .u8 0,.slice none 0 0],none,true,false⟩:=by kernel_rfl
@[simp] theorem T_25:T 25=some ⟨.slice 267,1,24,.nilS,.slice none 0 0,none,false,false⟩:=by kernel_rfl
@[simp] theorem T_26:T 26=some ⟨.slice 3,1,24,.nilS,.slice none 0 0,none,false,false⟩:=by kernel_rfl
@[simp] theorem T_27:T 27=some ⟨.struct #[⟨ "Rules",25,0,false, "", "",0⟩,⟨ "Block",26,1,false, "", "",24⟩,⟨ "Survive",26,2,false, "", "",48⟩],3,72,.agg [.nilS,.nilS,.nilS],.agg #[.slice none 0 0,.slice none 0 0,.slice none 0 0],none,true,false⟩:=by kernel_rfl
@[simp] theorem T_28:T 28=some ⟨.struct #[⟨ "Rules",25,0,false, "", "",0⟩,⟨ "Block",26,1,false, "", "",24⟩,⟨ "Survive",26,2,false, "", "",48⟩],3,72,.agg [.nilS,.nilS,.nilS],.agg #[.slice none 0 0,.slice none 0 0,.slice none 0 0],none,true,false⟩:=by kernel_rfl
@[simp] theorem T_29:T 29=some ⟨.slice 9,1,24,.nilS,.slice none 0 0,none,false,false⟩:=by kernel_rfl
@[simp] theorem T_30:T 30=some ⟨.slice 53,1,24,.nilS,.slice none 0 0,none,false,false⟩:=by kernel_rfl
@[simp] theorem T_31:T 31=some ⟨.struct #[⟨ "Name",9,0,false, "", "",0⟩,⟨ "Attrs",29,1,false, "", "",16⟩,⟨ "Rows",30,2,false, "", "",40⟩],3,64,.agg [.str oF,.nilS,.nilS],.agg #[.string oF,.slice none 0 0,.slice none 0 0],none,true,false⟩:=by kernel_rfl
@[simp] theorem T_32:T 32=some ⟨.struct #[⟨ "Name",9,0,false, "", "",0⟩,⟨ "Attrs",29,1,false, "", "",16⟩,⟨ "Rows",30,2,false, "", "",40⟩],3,64,.agg [.str oF,.nilS,.nilS],.agg #[.string oF,.slice none 0 0,.slice none 0 0],none,true,false⟩:=by kernel_rfl
@[simp] theorem T_34:T 34=some ⟨.func #[24,3] #[32,4] false,1,8,.nilFn,.nilFunc,none,false,false⟩:=by kernel_rfl
@[simp] theorem T_35:T 35=some ⟨.func #[] #[4] false,1,8,.nilFn,.nilFunc,none,false,false⟩:=by kernel_rfl
@[simp] theorem T_36:T 36=some ⟨.pointer 121,1,8,.nilP,.pointer none,none,false,false⟩:=by kernel_rfl
@[simp] theorem T_38:T 38=some ⟨.func #[32] #[36,4] false,1,8,.nilFn,.nilFunc,none,false,false⟩:=by kernel_rfl
@[simp] theorem T_39:T 39=some ⟨.slice 106,1,24,.nilS,.slice none 0 0,none,false,false⟩:=by kernel_rfl
@[simp] theorem T_40:T 40=some ⟨.struct #[⟨ "Table",32,0,false, "", "",0⟩,⟨ "Clusters",39,3,false, "", "",64⟩,⟨ "Origins",39,4,false, "", "",88⟩],5,112,.agg [.str oF,.nilS,.nilS,.nilS,.nilS],.agg #[.string oF,.slice none 0 0,.slice none 0 0,.slice none 0 0,.slice none 0 0],none,true,false⟩:=by kernel_rfl
@[simp] theorem T_41:T 41=some ⟨.struct #[⟨ "Table",32,0,false, "", "",0⟩,⟨ "Clusters",39,3,false, "", "",64⟩,⟨ "Origins",39,4,false, "", "",88⟩],5,112,.agg [.str oF,.nilS,.nilS,.nilS,.nilS],.agg #[.string oF,.slice none 0 0,.slice none 0 0,.slice none 0 0,.slice none 0 0],none,true,false⟩:=by kernel_rfl
@[simp] theorem T_42:T 42=some ⟨.int .i64,1,8,.int .i64 0,.int .i64 0,some (.int .i64),false,false⟩:=by kernel_rfl
@[simp] theorem T_44:T 44=some ⟨.func #[36,9,28] #[41,42] false,1,8,.nilFn,.nilFunc,none,false,false⟩:=by kernel_rfl
@[simp] theorem T_45:T 45=some ⟨.func #[32,28] #[41,42] false,1,8,.nilFn,.nilFunc,none,false,false⟩:=by kernel_rfl
@[simp] theorem T_46:T 46=some ⟨.func #[41,41] #[4] false,1,8,.nilFn,.nilFunc,none,false,false⟩:=by kernel_rfl
@[simp] theorem T_47:T 47=some ⟨.func #[36,32,32,55] #[4] false,1,8,.nilFn,.nilFunc,none,false,false⟩:=by kernel_rfl
@[simp] theorem T_48:T 48=some ⟨.func #[36,32,32] #[4] false,1,8,.nilFn,.nilFunc,none,false,false⟩:=by kernel_rfl
@[simp] theorem T_49:T 49=some ⟨.func #[24,28] #[4] false,1,8,.nilFn,.nilFunc,none,false,false⟩:=by kernel_rfl
@[simp] theorem T_50:T 50=some ⟨.func #[24,3] #[32] false,1,8,.nilFn,.nilFunc,none,false,false⟩:=by kernel_rfl
@[simp] theorem T_51:T 51=some ⟨.slice 79,1,24,.nilS,.slice none 0 0,none,false,false⟩:=by kernel_rfl
@[simp] theorem T_52:T 52=some ⟨.struct #[⟨ "ID",2,0,false, "", "",0⟩,⟨ "Values",51,1,false, "", "",8⟩],2,32,.agg [.int .i64 0,.nilS],.agg #[.int .i64 0,.slice none 0 0],none,true,false⟩:=by kernel_rfl
@[simp] theorem T_53:T 53=some ⟨.struct #[⟨ "ID",2,0,false, "", "",0⟩,⟨ "Values",51,1,false, "", "",8⟩],2,32,.agg [.int .i64 0,.nilS],.agg #[.int .i64 0,.slice none 0 0],none,true,false⟩:=by kernel_rfl
@[simp] theorem T_54:T 54=some ⟨.func #[2,2,2] #[53] false,1,8,.nilFn,.nilFunc,none,false,false⟩:=by kernel_rfl
@[simp] theorem T_55:T 55=some ⟨.slice 81,1,24,.nilS,.slice none 0 0,none,false,false⟩:=by kernel_rfl
@[simp] theorem T_57:T 57=some ⟨.func #[32,32] #[55,42] false,1,8,.nilFn,.nilFunc,none,false,false⟩:=by kernel_rfl
@[simp] theorem T_58:T 58=some ⟨.int .u32,1,4,.int .u32 0,.int .u32 0,some (.int .u32),false,false⟩:=by kernel_rfl
@[simp] theorem T_59:T 59=some ⟨.int .u32,1,4,.int .u32 0,.int .u32 0,some (.int .u32),false,false⟩:=by kernel_rfl
@[simp] theorem T_60:T 60=some ⟨.struct #[⟨ "Lhs",59,0,false, "", "",0⟩,⟨ "Rhs",59,1,false, "", "",4⟩],2,8,.agg [.int .u32 0,.int .u32 0],.agg #[.int .u32 0,.int .u32 0],none,true,false⟩:=by kernel_rfl
@[simp] theorem T_61:T 61=some ⟨.struct #[⟨ "Lhs",59,0,false, "", "",0⟩,⟨ "Rhs",59,1,false, "", "",4⟩],2,8,.agg [.int .u32 0,.int .u32 0],.agg #[.int .u32 0,.int .u32 0],none,true,false⟩:=by kernel_rfl
@[simp] theorem T_62:T 62=some ⟨.struct #[⟨ "Lhs",59,0,false, "", "",0⟩,⟨ "Rhs",59,1,false, "", "",4⟩],2,8,.agg [.int .u32 0,.int .u32 0],.agg #[.int .u32 0,.int .u32 0],none,true,false⟩:=by kernel_rfl
@[simp] theorem T_63:T 63=some ⟨.struct #[⟨ "From",9,0,false, "", "",0⟩,⟨ "Lhs",26,1,false, "", "",16⟩,⟨ "To",9,2,false, "", "",40⟩,⟨ "Rhs",26,3,false, "", "",56⟩],4,80,.agg [.str oF,.nilS,.str oF,.nilS],.agg #[.string oF,.slice none 0 0,.string oF,.slice none 0 0],none,true,false⟩:=by kernel_rfl
@[simp] theorem T_64:T 64=some ⟨.struct #[⟨ "From",9,0,false, "", "",0⟩,⟨ "Lhs",26,1,false, "", "",16⟩,⟨ "To",9,2,false, "", "",40⟩,⟨ "Rhs",26,3,false, "", "",56⟩],4,80,.agg [.str oF,.nilS,.str oF,.nilS],.agg #[.string oF,.slice none 0 0,.string oF,.slice none 0 0],none,true,false⟩:=by kernel_rfl
@[simp] theorem T_65:T 65=some ⟨.slice 415,1,24,.nilS,.slice none 0 0,none,false,false⟩:=by kernel_rfl
@[simp] theorem T_66:T 66=some ⟨.struct #[⟨ "Lhs",26,0,false, "", "",0⟩,⟨ "Rhs",3,1,false, "", "",24⟩,⟨ "Pattern",65,2,false, "", "",32⟩],3,56,.agg [.nilS,.int .i64 0,.nilS],.agg #[.slice none 0 0,.int .i64 0,.slice none 0 0],none,true,false⟩:=by kernel_rfl
@[simp] theorem T_67:T 67=some ⟨.struct #[⟨ "Lhs",26,0,false, "", "",0⟩,⟨ "Rhs",3,1,false, "", "",24⟩,⟨ "Pattern",65,2,false, "", "",32⟩],3,56,.agg [.nilS,.int .i64 0,.nilS],.agg #[.slice none 0 0,.int .i64 0,.slice none 0 0],none,true,false⟩:=by kernel_rfl
@[simp] theorem T_68:T 68=some ⟨.struct #[⟨ "Lhs",26,0,false, "", "",0⟩,⟨ "Rhs",26,1,false, "", "",24⟩],2,48,.agg [.nilS,.nilS],.agg #[.slice none 0 0,.slice none 0 0],none,true,false⟩:=by kernel_rfl
@[simp] theorem T_69:T 69=some ⟨.struct #[⟨ "Lhs",26,0,false, "", "",0⟩,⟨ "Rhs",26,1,false, "", "",24⟩],2,48,.agg [.nilS,.nilS],.agg #[.slice none 0 0,.slice none 0 0],none,true,false⟩:=by kernel_rfl
@[simp] theorem T_70:T 70=some ⟨.slice 408,1,24,.nilS,.slice none 0 0,none,false,false⟩:=by kernel_rfl
@[simp] theorem T_71:T 71=some ⟨.struct #[⟨ "Vars",3,0,false, "", "",0⟩,⟨ "Atoms",70,1,false, "", "",8⟩],2,32,.agg [.int .i64 0,.nilS],.agg #[.int .i64 0,.slice none 0 0],none,true,false⟩:=by kernel_rfl
@[simp] theorem T_72:T 72=some ⟨.struct #[⟨ "Vars",3,0,false, "", "",0⟩,⟨ "Atoms",70,1,false, "", "",8⟩],2,32,.agg [.int .i64 0,.nilS],.agg #[.int .i64 0,.slice none 0 0],none,true,false⟩:=by kernel_rfl
@[simp] theorem T_73:T 73=some ⟨.struct #[⟨ "Name",9,0,false, "", "",0⟩,⟨ "Table",9,1,false, "", "",16⟩,⟨ "Kind",3,2,false, "", "",32⟩,⟨ "FD",61,3,false, "", "",40⟩,⟨ "MVD",62,5,false, "", "",48⟩,⟨ "IND",64,7,false, "", "",56⟩,⟨ "CFD",67,11,false, "", "",136⟩,⟨ "OD",69,14,false, "", "",192⟩,⟨ "Denial",72,16,false, "", "",240⟩],18,272,.agg [.str oF,.str oF,.int .i64 0,.int .u32 0,.int .u32 0,.int .u32 0,.int .u32 0,.str oF,.nilS,.str oF,.nilS,.nilS,.int .i64 0,.nilS,.nilS,.nilS,.int .i64 0,.nilS],.agg #[.string oF,.string oF,.int .i64 0,.int .u32 0,.int .u32 0,.int .u32 0,.int .u32 0,.string oF,.slice none 0 0,.string oF,.slice none 0 0,.slice none 0 0,.int .i64 0,.slice none 0 0,.slice none 0 0,.slice none 0 0,.int .i64 0,.slice none 0 0],none,true,false⟩:=by kernel_rfl
@[simp] theorem T_74:T 74=some ⟨.struct #[⟨ "Name",9,0,false, "", "",0⟩,⟨ "Table",9,1,false, "", "",16⟩,⟨ "Kind",3,2,false, "", "",32⟩,⟨ "FD",61,3,false, "", "",40⟩,⟨ "MVD",62,5,false, "", "",48⟩,⟨ "IND",64,7,false, "", "",56⟩,⟨ "CFD",67,11,false, "", "",136⟩,⟨ "OD",69,14,false, "", "",192⟩,⟨ "Denial",72,16,false, "", "",240⟩],18,272,.agg [.str oF,.str oF,.int .i64 0,.int .u32 0,.int .u32 0,.int .u32 0,.int .u32 0,.str oF,.nilS,.str oF,.nilS,.nilS,.int .i64 0,.nilS,.nilS,.nilS,.int .i64 0,.nilS],.agg #[.string oF,.string oF,.int .i64 0,.int .u32 0,.int .u32 0,.int .u32 0,.int .u32 0,.string oF,.slice none 0 0,.string oF,.slice none 0 0,.slice none 0 0,.int .i64 0,.slice none 0 0,.slice none 0 0,.slice none 0 0,.int .i64 0,.slice none 0 0],none,true,false⟩:=by kernel_rfl
@[simp] theorem T_76:T 76=some ⟨.func #[32,77,3] #[3,3,42] false,1,8,.nilFn,.nilFunc,none,false,false⟩:=by kernel_rfl
@[simp] theorem T_77:T 77=some ⟨.slice 74,1,24,.nilS,.slice none 0 0,none,false,false⟩:=by kernel_rfl
@[simp] theorem T_78:T 78=some ⟨.struct #[⟨ "Kind",3,0,false, "", "",0⟩,⟨ "Num",2,1,false, "", "",8⟩,⟨ "Str",9,2,false, "", "",16⟩],3,32,.agg [.int .i64 0,.int .i64 0,.str oF],.agg #[.int .i64 0,.int .i64 0,.string oF],none,true,false⟩:=by kernel_rfl
@[simp] theorem T_79:T 79=some ⟨.struct #[⟨ "Kind",3,0,false, "", "",0⟩,⟨ "Num",2,1,false, "", "",8⟩,⟨ "Str",9,2,false, "", "",16⟩],3,32,.agg [.int .i64 0,.int .i64 0,.str oF],.agg #[.int .i64 0,.int .i64 0,.string oF],none,true,false⟩:=by kernel_rfl
@[simp] theorem T_80:T 80=some ⟨.struct #[⟨ "Kind",3,0,false, "", "",0⟩,⟨ "Name",9,1,false, "", "",8⟩,⟨ "Table",32,2,false, "", "",24⟩,⟨ "Row",53,5,false, "", "",88⟩,⟨ "Attr",3,7,false, "", "",120⟩,⟨ "Value",79,8,false, "", "",128⟩],11,160,.agg [.int .i64 0,.str oF,.str oF,.nilS,.nilS,.int .i64 0,.nilS,.int .i64 0,.int .i64 0,.int .i64 0,.str oF],.agg #[.int .i64 0,.string oF,.string oF,.slice none 0 0,.slice none 0 0,.int .i64 0,.slice none 0 0,.int .i64 0,.int .i64 0,.int .i64 0,.string oF],none,true,false⟩:=by kernel_rfl
@[simp] theorem T_81:T 81=some ⟨.struct #[⟨ "Kind",3,0,false, "", "",0⟩,⟨ "Name",9,1,false, "", "",8⟩,⟨ "Table",32,2,false, "", "",24⟩,⟨ "Row",53,5,false, "", "",88⟩,⟨ "Attr",3,7,false, "", "",120⟩,⟨ "Value",79,8,false, "", "",128⟩],11,160,.agg [.int .i64 0,.str oF,.str oF,.nilS,.nilS,.int .i64 0,.nilS,.int .i64 0,.int .i64 0,.int .i64 0,.str oF],.agg #[.int .i64 0,.string oF,.string oF,.slice none 0 0,.slice none 0 0,.int .i64 0,.slice none 0 0,.int .i64 0,.int .i64 0,.int .i64 0,.string oF],none,true,false⟩:=by kernel_rfl
@[simp] theorem T_82:T 82=some ⟨.func #[] #[36] false,1,8,.nilFn,.nilFunc,none,false,false⟩:=by kernel_rfl
@[simp] theorem T_83:T 83=some ⟨.func #[32] #[42] false,1,8,.nilFn,.nilFunc,none,false,false⟩:=by kernel_rfl
@[simp] theorem T_85:T 85=some ⟨.func #[36,9] #[32,42] false,1,8,.nilFn,.nilFunc,none,false,false⟩:=by kernel_rfl
@[simp] theorem T_86:T 86=some ⟨.func #[36,32,32,42] #[42] false,1,8,.nilFn,.nilFunc,none,false,false⟩:=by kernel_rfl
@[simp] theorem T_88:T 88=some ⟨.func #[32,28] #[39,42] false,1,8,.nilFn,.nilFunc,none,false,false⟩:=by kernel_rfl
@[simp] theorem T_89:T 89=some ⟨.func #[32,39,26] #[41,42] false,1,8,.nilFn,.nilFunc,none,false,false⟩:=by kernel_rfl
@[simp] theorem T_90:T 90=some ⟨.func #[32,32] #[4] false,1,8,.nilFn,.nilFunc,none,false,false⟩:=by kernel_rfl
@[simp] theorem T_91:T 91=some ⟨.func #[39,39] #[4] false,1,8,.nilFn,.nilFunc,none,false,false⟩:=by kernel_rfl
@[simp] theorem T_92:T 92=some ⟨.slice 32,1,24,.nilS,.slice none 0 0,none,false,false⟩:=by kernel_rfl
@[simp] theorem T_93:T 93=some ⟨.struct #[⟨ "Tables",92,0,false, "", "",0⟩],1,24,.agg [.nilS],.agg #[.slice none 0 0],none,true,false⟩:=by kernel_rfl
@[simp] theorem T_94:T 94=some ⟨.struct #[⟨ "Tables",92,0,false, "", "",0⟩],1,24,.agg [.nilS],.agg #[.slice none 0 0],none,true,false⟩:=by kernel_rfl
@[simp] theorem T_95:T 95=some ⟨.func #[] #[94] false,1,8,.nilFn,.nilFunc,none,false,false⟩:=by kernel_rfl
@[simp] theorem T_96:T 96=some ⟨.func #[] #[55] false,1,8,.nilFn,.nilFunc,none,false,false⟩:=by kernel_rfl
@[simp] theorem T_97:T 97=some ⟨.func #[55,55] #[4] false,1,8,.nilFn,.nilFunc,none,false,false⟩:=by kernel_rfl
@[simp] theorem T_98:T 98=some ⟨.func #[] #[42] false,1,8,.nilFn,.nilFunc,none,false,false⟩:=by kernel_rfl
@[simp] theorem T_99:T 99=some ⟨.slice 5,1,24,.nilS,.slice none 0 0,none,false,false⟩:=by kernel_rfl
@[simp] theorem T_100:T 100=some ⟨.func #[5] #[79] false,1,8,.nilFn,.nilFunc,none,false,false⟩:=by kernel_rfl
@[simp] theorem T_101:T 101=some ⟨.func #[29,29] #[4] false,1,8,.nilFn,.nilFunc,none,false,false⟩:=by kernel_rfl
@[simp] theorem T_103:T 103=some ⟨.func #[32,2] #[3,4] false,1,8,.nilFn,.nilFunc,none,false,false⟩:=by kernel_rfl
@[simp] theorem T_104:T 104=some ⟨.func #[53] #[53] false,1,8,.nilFn,.nilFunc,none,false,false⟩:=by kernel_rfl
@[simp] theorem T_105:T 105=some ⟨.func #[119] #[55] true,1,8,.nilFn,.nilFunc,none,false,false⟩:=by kernel_rfl
@[simp] theorem T_106:T 106=some ⟨.slice 2,1,24,.nilS,.slice none 0 0,none,false,false⟩:=by kernel_rfl
@[simp] theorem T_107:T 107=some ⟨.slice 325,1,24,.nilS,.slice none 0 0,none,false,false⟩:=by kernel_rfl
@[simp] theorem T_108:T 108=some ⟨.struct #[⟨ "Deleted",106,0,false, "", "",0⟩,⟨ "Weight",2,1,false, "", "",24⟩,⟨ "Proof",107,2,false, "", "",32⟩],3,56,.agg [.nilS,.int .i64 0,.nilS],.agg #[.slice none 0 0,.int .i64 0,.slice none 0 0],none,true,false⟩:=by kernel_rfl
@[simp] theorem T_109:T 109=some ⟨.struct #[⟨ "Deleted",106,0,false, "", "",0⟩,⟨ "Weight",2,1,false, "", "",24⟩,⟨ "Proof",107,2,false, "", "",32⟩],3,56,.agg [.nilS,.int .i64 0,.nilS],.agg #[.slice none 0 0,.int .i64 0,.slice none 0 0],none,true,false⟩:=by kernel_rfl
@[simp] theorem T_111:T 111=some ⟨.func #[32,77,106,3] #[109,42] false,1,8,.nilFn,.nilFunc,none,false,false⟩:=by kernel_rfl
@[simp] theorem T_112:T 112=some ⟨.slice 61,1,24,.nilS,.slice none 0 0,none,false,false⟩:=by kernel_rfl
@[simp] theorem T_113:T 113=some ⟨.slice 172,1,24,.nilS,.slice none 0 0,none,false,false⟩:=by kernel_rfl
@[simp] theorem T_114:T 114=some ⟨.slice 113,1,24,.nilS,.slice none 0 0,none,false,false⟩:=by kernel_rfl
@[simp] theorem T_115:T 115=some ⟨.struct #[⟨ "Cells",113,0,false, "", "",0⟩,⟨ "Table",32,1,false, "", "",24⟩,⟨ "Cores",114,4,false, "", "",88⟩,⟨ "Proof",107,5,false, "", "",112⟩],6,136,.agg [.nilS,.str oF,.nilS,.nilS,.nilS,.nilS],.agg #[.slice none 0 0,.string oF,.slice none 0 0,.slice none 0 0,.slice none 0 0,.slice none 0 0],none,true,false⟩:=by kernel_rfl
@[simp] theorem T_116:T 116=some ⟨.struct #[⟨ "Cells",113,0,false, "", "",0⟩,⟨ "Table",32,1,false, "", "",24⟩,⟨ "Cores",114,4,false, "", "",88⟩,⟨ "Proof",107,5,false, "", "",112⟩],6,136,.agg [.nilS,.str oF,.nilS,.nilS,.nilS,.nilS],.agg #[.slice none 0 0,.string oF,.slice none 0 0,.slice none 0 0,.slice none 0 0,.slice none 0 0],none,true,false⟩:=by kernel_rfl
@[simp] theorem T_118:T 118=some ⟨.func #[32,112,3] #[116,42] false,1,8,.nilFn,.nilFunc,none,false,false⟩:=by kernel_rfl
@[simp] theorem T_119:T 119=some ⟨.slice 55,1,24,.nilS,.slice none 0 0,none,false,false⟩:=by kernel_rfl
@[simp] theorem T_120:T 120=some ⟨.struct #[⟨ "db",94,0,false, "", "dross/store",0⟩,⟨ "done",119,1,false, "", "dross/store",24⟩,⟨ "undone",119,2,false, "", "dross/store",48⟩,⟨ "open",4,3,false, "", "dross/store",72⟩,⟨ "now",55,4,false, "", "dross/store",80⟩],5,104,.agg [.nilS,.nilS,.nilS,.bool false,.nilS],.agg #[.slice none 0 0,.slice none 0 0,.slice none 0 0,.bool false,.slice none 0 0],none,true,false⟩:=by kernel_rfl
@[simp] theorem T_121:T 121=some ⟨.struct #[⟨ "db",94,0,false, "", "dross/store",0⟩,⟨ "done",119,1,false, "", "dross/store",24⟩,⟨ "undone",119,2,false, "", "dross/store",48⟩,⟨ "open",4,3,false, "", "dross/store",72⟩,⟨ "now",55,4,false, "", "dross/store",80⟩],5,104,.agg [.nilS,.nilS,.nilS,.bool false,.nilS],.agg #[.slice none 0 0,.slice none 0 0,.slice none 0 0,.bool false,.slice none 0 0],none,true,false⟩:=by kernel_rfl
@[simp] theorem T_122:T 122=some ⟨.func #[81] #[42] false,1,8,.nilFn,.nilFunc,none,false,false⟩:=by kernel_rfl
@[simp] theorem T_123:T 123=some ⟨.func #[32] #[32] false,1,8,.nilFn,.nilFunc,none,false,false⟩:=by kernel_rfl
@[simp] theorem T_124:T 124=some ⟨.func #[36,9,55] #[42] false,1,8,.nilFn,.nilFunc,none,false,false⟩:=by kernel_rfl
@[simp] theorem T_125:T 125=some ⟨.func #[32,28] #[42] false,1,8,.nilFn,.nilFunc,none,false,false⟩:=by kernel_rfl
@[simp] theorem T_126:T 126=some ⟨.slice 129,1,24,.nilS,.slice none 0 0,none,false,false⟩:=by kernel_rfl
@[simp] theorem T_127:T 127=some ⟨.func #[32,28] #[126] false,1,8,.nilFn,.nilFunc,none,false,false⟩:=by kernel_rfl
@[simp] theorem T_128:T 128=some ⟨.map 129 4,1,8,.nilM,.map none,none,false,false⟩:=by kernel_rfl
@[simp] theorem T_129:T 129=some ⟨.array 2 3,2,16,.agg [.int .i64 0,.int .i64 0],.agg #[.int .i64 0,.int .i64 0],some (.arr 2),true,false⟩:=by kernel_rfl
@[simp] theorem T_130:T 130=some ⟨.slice 26,1,24,.nilS,.slice none 0 0,none,false,false⟩:=by kernel_rfl
@[simp] theorem T_132:T 132=some ⟨.func #[3,126] #[130,42] false,1,8,.nilFn,.nilFunc,none,false,false⟩:=by kernel_rfl
@[simp] theorem T_133:T 133=some ⟨.func #[26,128] #[130,42] false,1,8,.nilFn,.nilFunc,none,false,false⟩:=by kernel_rfl
@[simp] theorem T_134:T 134=some ⟨.func #[39,135] #[] false,1,8,.nilFn,.nilFunc,none,false,false⟩:=by kernel_rfl
@[simp] theorem T_135:T 135=some ⟨.func #[106,106] #[3] false,1,8,.nilFn,.nilFunc,none,false,false⟩:=by kernel_rfl
@[simp] theorem T_136:T 136=some ⟨.func #[26,137] #[4] false,1,8,.nilFn,.nilFunc,none,false,false⟩:=by kernel_rfl
@[simp] theorem T_137:T 137=some ⟨.func #[3] #[4] false,1,8,.nilFn,.nilFunc,none,false,false⟩:=by kernel_rfl
@[simp] theorem T_138:T 138=some ⟨.func #[32,39] #[4] false,1,8,.nilFn,.nilFunc,none,false,false⟩:=by kernel_rfl
@[simp] theorem T_139:T 139=some ⟨.func #[39] #[39] false,1,8,.nilFn,.nilFunc,none,false,false⟩:=by kernel_rfl
@[simp] theorem T_140:T 140=some ⟨.func #[2,2] #[3] false,1,8,.nilFn,.nilFunc,none,false,false⟩:=by kernel_rfl
@[simp] theorem T_141:T 141=some ⟨.func #[29] #[29] false,1,8,.nilFn,.nilFunc,none,false,false⟩:=by kernel_rfl
@[simp] theorem T_143:T 143=some ⟨.func #[30,26] #[53,106,42] false,1,8,.nilFn,.nilFunc,none,false,false⟩:=by kernel_rfl
@[simp] theorem T_144:T 144=some ⟨.func #[32,106] #[32] false,1,8,.nilFn,.nilFunc,none,false,false⟩:=by kernel_rfl
@[simp] theorem T_145:T 145=some ⟨.func #[106] #[106] false,1,8,.nilFn,.nilFunc,none,false,false⟩:=by kernel_rfl
@[simp] theorem T_146:T 146=some ⟨.func #[53,53] #[4] false,1,8,.nilFn,.nilFunc,none,false,false⟩:=by kernel_rfl
@[simp] theorem T_147:T 147=some ⟨.func #[106,106] #[4] false,1,8,.nilFn,.nilFunc,none,false,false⟩:=by kernel_rfl
@[simp] theorem T_148:T 148=some ⟨.func #[81,81] #[4] false,1,8,.nilFn,.nilFunc,none,false,false⟩:=by kernel_rfl
@[simp] theorem T_149:T 149=some ⟨.func #[79,79] #[3] false,1,8,.nilFn,.nilFunc,none,false,false⟩:=by kernel_rfl
@[simp] theorem T_150:T 150=some ⟨.func #[55] #[] false,1,8,.nilFn,.nilFunc,none,false,false⟩:=by kernel_rfl
@[simp] theorem T_152:T 152=some ⟨.func #[94,81] #[94,42] false,1,8,.nilFn,.nilFunc,none,false,false⟩:=by kernel_rfl
@[simp] theorem T_153:T 153=some ⟨.func #[9] #[4] false,1,8,.nilFn,.nilFunc,none,false,false⟩:=by kernel_rfl
@[simp] theorem T_154:T 154=some ⟨.func #[29,9] #[4] false,1,8,.nilFn,.nilFunc,none,false,false⟩:=by kernel_rfl
@[simp] theorem T_155:T 155=some ⟨.func #[51] #[4] false,1,8,.nilFn,.nilFunc,none,false,false⟩:=by kernel_rfl
@[simp] theorem T_156:T 156=some ⟨.func #[30,157] #[3] false,1,8,.nilFn,.nilFunc,none,false,false⟩:=by kernel_rfl
@[simp] theorem T_157:T 157=some ⟨.func #[53] #[4] false,1,8,.nilFn,.nilFunc,none,false,false⟩:=by kernel_rfl
@[simp] theorem T_158:T 158=some ⟨.func #[51] #[51] false,1,8,.nilFn,.nilFunc,none,false,false⟩:=by kernel_rfl
@[simp] theorem T_159:T 159=some ⟨.func #[55,3] #[55] false,1,8,.nilFn,.nilFunc,none,false,false⟩:=by kernel_rfl
@[simp] theorem T_160:T 160=some ⟨.struct #[⟨ "Weights",106,0,false, "", "",0⟩,⟨ "Edges",130,1,false, "", "",24⟩],2,48,.agg [.nilS,.nilS],.agg #[.slice none 0 0,.slice none 0 0],none,true,false⟩:=by kernel_rfl
@[simp] theorem T_161:T 161=some ⟨.struct #[⟨ "Weights",106,0,false, "", "",0⟩,⟨ "Edges",130,1,false, "", "",24⟩],2,48,.agg [.nilS,.nilS],.agg #[.slice none 0 0,.slice none 0 0],none,true,false⟩:=by kernel_rfl
@[simp] theorem T_163:T 163=some ⟨.func #[32,77,106] #[161,42] false,1,8,.nilFn,.nilFunc,none,false,false⟩:=by kernel_rfl
@[simp] theorem T_165:T 165=some ⟨.func #[161,3] #[26,2,42] false,1,8,.nilFn,.nilFunc,none,false,false⟩:=by kernel_rfl
@[simp] theorem T_167:T 167=some ⟨.func #[161,2,3] #[107,42] false,1,8,.nilFn,.nilFunc,none,false,false⟩:=by kernel_rfl
@[simp] theorem T_168:T 168=some ⟨.func #[32,112,113] #[42] false,1,8,.nilFn,.nilFunc,none,false,false⟩:=by kernel_rfl
@[simp] theorem T_170:T 170=some ⟨.func #[114] #[161,113] false,1,8,.nilFn,.nilFunc,none,false,false⟩:=by kernel_rfl
@[simp] theorem T_171:T 171=some ⟨.struct #[⟨ "ID",2,0,false, "", "",0⟩,⟨ "Attr",3,1,false, "", "",8⟩],2,16,.agg [.int .i64 0,.int .i64 0],.agg #[.int .i64 0,.int .i64 0],none,true,false⟩:=by kernel_rfl
@[simp] theorem T_172:T 172=some ⟨.struct #[⟨ "ID",2,0,false, "", "",0⟩,⟨ "Attr",3,1,false, "", "",8⟩],2,16,.agg [.int .i64 0,.int .i64 0],.agg #[.int .i64 0,.int .i64 0],none,true,false⟩:=by kernel_rfl
@[simp] theorem T_173:T 173=some ⟨.func #[32,112,113] #[4] false,1,8,.nilFn,.nilFunc,none,false,false⟩:=by kernel_rfl
@[simp] theorem T_174:T 174=some ⟨.func #[32,112,113] #[32,42] false,1,8,.nilFn,.nilFunc,none,false,false⟩:=by kernel_rfl
@[simp] theorem T_175:T 175=some ⟨.func #[32,112,113] #[113] false,1,8,.nilFn,.nilFunc,none,false,false⟩:=by kernel_rfl
@[simp] theorem T_176:T 176=some ⟨.func #[32,113] #[113] false,1,8,.nilFn,.nilFunc,none,false,false⟩:=by kernel_rfl
@[simp] theorem T_177:T 177=some ⟨.func #[114,178] #[] false,1,8,.nilFn,.nilFunc,none,false,false⟩:=by kernel_rfl
@[simp] theorem T_178:T 178=some ⟨.func #[113,113] #[3] false,1,8,.nilFn,.nilFunc,none,false,false⟩:=by kernel_rfl
@[simp] theorem T_179:T 179=some ⟨.func #[] #[55,42] false,1,8,.nilFn,.nilFunc,none,false,false⟩:=by kernel_rfl
@[simp] theorem T_180:T 180=some ⟨.func #[9,53] #[42] false,1,8,.nilFn,.nilFunc,none,false,false⟩:=by kernel_rfl
@[simp] theorem T_181:T 181=some ⟨.func #[9,2] #[42] false,1,8,.nilFn,.nilFunc,none,false,false⟩:=by kernel_rfl
@[simp] theorem T_182:T 182=some ⟨.func #[9,172,79] #[42] false,1,8,.nilFn,.nilFunc,none,false,false⟩:=by kernel_rfl
@[simp] theorem T_183:T 183=some ⟨.func #[3,28] #[42] false,1,8,.nilFn,.nilFunc,none,false,false⟩:=by kernel_rfl
@[simp] theorem T_184:T 184=some ⟨.func #[28,53,53] #[4] false,1,8,.nilFn,.nilFunc,none,false,false⟩:=by kernel_rfl
@[simp] theorem T_185:T 185=some ⟨.func #[28,53,53] #[3] false,1,8,.nilFn,.nilFunc,none,false,false⟩:=by kernel_rfl
@[simp] theorem T_186:T 186=some ⟨.func #[3,126] #[42] false,1,8,.nilFn,.nilFunc,none,false,false⟩:=by kernel_rfl
@[simp] theorem T_187:T 187=some ⟨.func #[3,126] #[130] false,1,8,.nilFn,.nilFunc,none,false,false⟩:=by kernel_rfl
@[simp] theorem T_188:T 188=some ⟨.func #[278] #[126] true,1,8,.nilFn,.nilFunc,none,false,false⟩:=by kernel_rfl
@[simp] theorem T_189:T 189=some ⟨.func #[126] #[126] false,1,8,.nilFn,.nilFunc,none,false,false⟩:=by kernel_rfl
@[simp] theorem T_190:T 190=some ⟨.slice 4,1,24,.nilS,.slice none 0 0,none,false,false⟩:=by kernel_rfl
@[simp] theorem T_191:T 191=some ⟨.func #[130,3] #[26] false,1,8,.nilFn,.nilFunc,none,false,false⟩:=by kernel_rfl
@[simp] theorem T_192:T 192=some ⟨.slice 194,1,24,.nilS,.slice none 0 0,none,false,false⟩:=by kernel_rfl
@[simp] theorem T_193:T 193=some ⟨.struct #[⟨ "I",3,0,false, "", "",0⟩,⟨ "K",3,1,false, "", "",8⟩,⟨ "Weight",2,2,false, "", "",16⟩],3,24,.agg [.int .i64 0,.int .i64 0,.int .i64 0],.agg #[.int .i64 0,.int .i64 0,.int .i64 0],none,true,false⟩:=by kernel_rfl
@[simp] theorem T_194:T 194=some ⟨.struct #[⟨ "I",3,0,false, "", "",0⟩,⟨ "K",3,1,false, "", "",8⟩,⟨ "Weight",2,2,false, "", "",16⟩],3,24,.agg [.int .i64 0,.int .i64 0,.int .i64 0],.agg #[.int .i64 0,.int .i64 0,.int .i64 0],none,true,false⟩:=by kernel_rfl
@[simp] theorem T_195:T 195=some ⟨.func #[3,192] #[26,2,42] false,1,8,.nilFn,.nilFunc,none,false,false⟩:=by kernel_rfl
@[simp] theorem T_197:T 197=some ⟨.func #[3,192] #[26,42] false,1,8,.nilFn,.nilFunc,none,false,false⟩:=by kernel_rfl
@[simp] theorem T_198:T 198=some ⟨.func #[26] #[130] false,1,8,.nilFn,.nilFunc,none,false,false⟩:=by kernel_rfl
@[simp] theorem T_199:T 199=some ⟨.func #[39,3,3,3,135] #[] false,1,8,.nilFn,.nilFunc,none,false,false⟩:=by kernel_rfl
@[simp] theorem T_200:T 200=some ⟨.func #[201] #[3] false,1,8,.nilFn,.nilFunc,none,false,false⟩:=by kernel_rfl
@[simp] theorem T_201:T 201=some ⟨.int .u64,1,8,.int .u64 0,.int .u64 0,some (.int .u64),false,false⟩:=by kernel_rfl
@[simp] theorem T_202:T 202=some ⟨.func #[26,137] #[3] false,1,8,.nilFn,.nilFunc,none,false,false⟩:=by kernel_rfl
@[simp] theorem T_203:T 203=some ⟨.map 2 4,1,8,.nilM,.map none,none,false,false⟩:=by kernel_rfl
@[simp] theorem T_205:T 205=some ⟨.func #[39] #[203,4] false,1,8,.nilFn,.nilFunc,none,false,false⟩:=by kernel_rfl
@[simp] theorem T_206:T 206=some ⟨.func #[30,157] #[4] false,1,8,.nilFn,.nilFunc,none,false,false⟩:=by kernel_rfl
@[simp] theorem T_207:T 207=some ⟨.func #[2] #[4] false,1,8,.nilFn,.nilFunc,none,false,false⟩:=by kernel_rfl
@[simp] theorem T_208:T 208=some ⟨.func #[30] #[42] false,1,8,.nilFn,.nilFunc,none,false,false⟩:=by kernel_rfl
@[simp] theorem T_210:T 210=some ⟨.func #[30,3,3] #[79,2] false,1,8,.nilFn,.nilFunc,none,false,false⟩:=by kernel_rfl
@[simp] theorem T_211:T 211=some ⟨.func #[106,2] #[4] false,1,8,.nilFn,.nilFunc,none,false,false⟩:=by kernel_rfl
@[simp] theorem T_212:T 212=some ⟨.func #[32,30] #[32] false,1,8,.nilFn,.nilFunc,none,false,false⟩:=by kernel_rfl
@[simp] theorem T_213:T 213=some ⟨.func #[51,51] #[4] false,1,8,.nilFn,.nilFunc,none,false,false⟩:=by kernel_rfl
@[simp] theorem T_214:T 214=some ⟨.func #[29] #[4] false,1,8,.nilFn,.nilFunc,none,false,false⟩:=by kernel_rfl
@[simp] theorem T_215:T 215=some ⟨.func #[9,9] #[3] false,1,8,.nilFn,.nilFunc,none,false,false⟩:=by kernel_rfl
@[simp] theorem T_216:T 216=some ⟨.func #[302] #[] false,1,8,.nilFn,.nilFunc,none,false,false⟩:=by kernel_rfl
@[simp] theorem T_217:T 217=some ⟨.func #[302] #[] false,1,8,.nilFn,.nilFunc,none,false,false⟩:=by kernel_rfl
@[simp] theorem T_218:T 218=some ⟨.func #[55] #[217] false,1,8,.nilFn,.nilFunc,none,false,false⟩:=by kernel_rfl
@[simp] theorem T_219:T 219=some ⟨.func #[92] #[92] false,1,8,.nilFn,.nilFunc,none,false,false⟩:=by kernel_rfl
@[simp] theorem T_220:T 220=some ⟨.func #[81] #[81] false,1,8,.nilFn,.nilFunc,none,false,false⟩:=by kernel_rfl
@[simp] theorem T_221:T 221=some ⟨.func #[94,32] #[42] false,1,8,.nilFn,.nilFunc,none,false,false⟩:=by kernel_rfl
@[simp] theorem T_222:T 222=some ⟨.func #[94,9] #[3] false,1,8,.nilFn,.nilFunc,none,false,false⟩:=by kernel_rfl
@[simp] theorem T_223:T 223=some ⟨.func #[32,53] #[32,42] false,1,8,.nilFn,.nilFunc,none,false,false⟩:=by kernel_rfl
@[simp] theorem T_224:T 224=some ⟨.func #[32,2] #[32,42] false,1,8,.nilFn,.nilFunc,none,false,false⟩:=by kernel_rfl
@[simp] theorem T_225:T 225=some ⟨.func #[32,172,79] #[32,42] false,1,8,.nilFn,.nilFunc,none,false,false⟩:=by kernel_rfl
@[simp] theorem T_226:T 226=some ⟨.func #[29,9] #[3] false,1,8,.nilFn,.nilFunc,none,false,false⟩:=by kernel_rfl
@[simp] theorem T_227:T 227=some ⟨.func #[51,228] #[4] false,1,8,.nilFn,.nilFunc,none,false,false⟩:=by kernel_rfl
@[simp] theorem T_228:T 228=some ⟨.func #[79] #[4] false,1,8,.nilFn,.nilFunc,none,false,false⟩:=by kernel_rfl
@[simp] theorem T_229:T 229=some ⟨.struct #[⟨ "Vertices",106,0,false, "", "",0⟩,⟨ "Edges",39,1,false, "", "",24⟩],2,48,.agg [.nilS,.nilS],.agg #[.slice none 0 0,.slice none 0 0],none,true,false⟩:=by kernel_rfl
@[simp] theorem T_230:T 230=some ⟨.struct #[⟨ "Vertices",106,0,false, "", "",0⟩,⟨ "Edges",39,1,false, "", "",24⟩],2,48,.agg [.nilS,.nilS],.agg #[.slice none 0 0,.slice none 0 0],none,true,false⟩:=by kernel_rfl
@[simp] theorem T_232:T 232=some ⟨.func #[32,77] #[230,42] false,1,8,.nilFn,.nilFunc,none,false,false⟩:=by kernel_rfl
@[simp] theorem T_233:T 233=some ⟨.func #[106,2] #[3,4] false,1,8,.nilFn,.nilFunc,none,false,false⟩:=by kernel_rfl
@[simp] theorem T_234:T 234=some ⟨.func #[161] #[42] false,1,8,.nilFn,.nilFunc,none,false,false⟩:=by kernel_rfl
@[simp] theorem T_235:T 235=some ⟨.func #[161] #[26,42] false,1,8,.nilFn,.nilFunc,none,false,false⟩:=by kernel_rfl
@[simp] theorem T_237:T 237=some ⟨.func #[161,26] #[2,42] false,1,8,.nilFn,.nilFunc,none,false,false⟩:=by kernel_rfl
@[simp] theorem T_238:T 238=some ⟨.pointer 240,1,8,.nilP,.pointer none,none,false,false⟩:=by kernel_rfl
@[simp] theorem T_239:T 239=some ⟨.struct #[⟨ "l",26,0,false, "", "dross/hitset",0⟩,⟨ "weight",2,1,false, "", "dross/hitset",24⟩],2,32,.agg [.nilS,.int .i64 0],.agg #[.slice none 0 0,.int .i64 0],none,true,false⟩:=by kernel_rfl
@[simp] theorem T_240:T 240=some ⟨.struct #[⟨ "l",26,0,false, "", "dross/hitset",0⟩,⟨ "weight",2,1,false, "", "dross/hitset",24⟩],2,32,.agg [.nilS,.int .i64 0],.agg #[.slice none 0 0,.int .i64 0],none,true,false⟩:=by kernel_rfl
@[simp] theorem T_241:T 241=some ⟨.pointer 319,1,8,.nilP,.pointer none,none,false,false⟩:=by kernel_rfl
@[simp] theorem T_242:T 242=some ⟨.func #[161,3] #[241] false,1,8,.nilFn,.nilFunc,none,false,false⟩:=by kernel_rfl
@[simp] theorem T_243:T 243=some ⟨.func #[238,2] #[4] false,1,8,.nilFn,.nilFunc,none,false,false⟩:=by kernel_rfl
@[simp] theorem T_244:T 244=some ⟨.func #[2] #[107,42] false,1,8,.nilFn,.nilFunc,none,false,false⟩:=by kernel_rfl
@[simp] theorem T_245:T 245=some ⟨.func #[3,112] #[42] false,1,8,.nilFn,.nilFunc,none,false,false⟩:=by kernel_rfl
@[simp] theorem T_246:T 246=some ⟨.func #[113] #[4] false,1,8,.nilFn,.nilFunc,none,false,false⟩:=by kernel_rfl
@[simp] theorem T_247:T 247=some ⟨.func #[114] #[113] true,1,8,.nilFn,.nilFunc,none,false,false⟩:=by kernel_rfl
@[simp] theorem T_248:T 248=some ⟨.func #[113,249] #[] false,1,8,.nilFn,.nilFunc,none,false,false⟩:=by kernel_rfl
@[simp] theorem T_249:T 249=some ⟨.func #[172,172] #[3] false,1,8,.nilFn,.nilFunc,none,false,false⟩:=by kernel_rfl
@[simp] theorem T_250:T 250=some ⟨.func #[113] #[113] false,1,8,.nilFn,.nilFunc,none,false,false⟩:=by kernel_rfl
@[simp] theorem T_251:T 251=some ⟨.func #[113,172,249] #[3,4] false,1,8,.nilFn,.nilFunc,none,false,false⟩:=by kernel_rfl
@[simp] theorem T_252:T 252=some ⟨.pointer 259,1,8,.nilP,.pointer none,none,false,false⟩:=by kernel_rfl
@[simp] theorem T_253:T 253=some ⟨.func #[32,113] #[252] false,1,8,.nilFn,.nilFunc,none,false,false⟩:=by kernel_rfl
@[simp] theorem T_254:T 254=some ⟨.func #[3,112] #[4] false,1,8,.nilFn,.nilFunc,none,false,false⟩:=by kernel_rfl
@[simp] theorem T_255:T 255=some ⟨.map 3 79,1,8,.nilM,.map none,none,false,false⟩:=by kernel_rfl
@[simp] theorem T_256:T 256=some ⟨.func #[3] #[3] false,1,8,.nilFn,.nilFunc,none,false,false⟩:=by kernel_rfl
@[simp] theorem T_257:T 257=some ⟨.slice 260,1,24,.nilS,.slice none 0 0,none,false,false⟩:=by kernel_rfl
@[simp] theorem T_258:T 258=some ⟨.struct #[⟨ "n",3,0,false, "", "dross/update",0⟩,⟨ "parent",26,1,false, "", "dross/update",8⟩,⟨ "known",257,2,false, "", "dross/update",32⟩],3,56,.agg [.int .i64 0,.nilS,.nilS],.agg #[.int .i64 0,.slice none 0 0,.slice none 0 0],none,true,false⟩:=by kernel_rfl
@[simp] theorem T_259:T 259=some ⟨.struct #[⟨ "n",3,0,false, "", "dross/update",0⟩,⟨ "parent",26,1,false, "", "dross/update",8⟩,⟨ "known",257,2,false, "", "dross/update",32⟩],3,56,.agg [.int .i64 0,.nilS,.nilS],.agg #[.int .i64 0,.slice none 0 0,.slice none 0 0],none,true,false⟩:=by kernel_rfl
@[simp] theorem T_260:T 260=some ⟨.pointer 79,1,8,.nilP,.pointer none,none,false,false⟩:=by kernel_rfl
@[simp] theorem T_262:T 262=some ⟨.func #[113,3] #[113] false,1,8,.nilFn,.nilFunc,none,false,false⟩:=by kernel_rfl
@[simp] theorem T_263:T 263=some ⟨.func #[114,3,3,3,178] #[] false,1,8,.nilFn,.nilFunc,none,false,false⟩:=by kernel_rfl
@[simp] theorem T_264:T 264=some ⟨.func #[113,113,249] #[3] false,1,8,.nilFn,.nilFunc,none,false,false⟩:=by kernel_rfl
@[simp] theorem T_266:T 266=some ⟨.func #[9,2] #[53,42] false,1,8,.nilFn,.nilFunc,none,false,false⟩:=by kernel_rfl
@[simp] theorem T_267:T 267=some ⟨.slice 269,1,24,.nilS,.slice none 0 0,none,false,false⟩:=by kernel_rfl
@[simp] theorem T_268:T 268=some ⟨.struct #[⟨ "Attr",3,0,false, "", "",0⟩,⟨ "Measure",3,1,false, "", "",8⟩,⟨ "Limit",2,2,false, "", "",16⟩],3,24,.agg [.int .i64 0,.int .i64 0,.int .i64 0],.agg #[.int .i64 0,.int .i64 0,.int .i64 0],none,true,false⟩:=by kernel_rfl
@[simp] theorem T_269:T 269=some ⟨.struct #[⟨ "Attr",3,0,false, "", "",0⟩,⟨ "Measure",3,1,false, "", "",8⟩,⟨ "Limit",2,2,false, "", "",16⟩],3,24,.agg [.int .i64 0,.int .i64 0,.int .i64 0],.agg #[.int .i64 0,.int .i64 0,.int .i64 0],none,true,false⟩:=by kernel_rfl
@[simp] theorem T_271:T 271=some ⟨.func #[53,53,269] #[4,42] false,1,8,.nilFn,.nilFunc,none,false,false⟩:=by kernel_rfl
@[simp] theorem T_272:T 272=some ⟨.func #[26] #[26] false,1,8,.nilFn,.nilFunc,none,false,false⟩:=by kernel_rfl
@[simp] theorem T_273:T 273=some ⟨.func #[26] #[] false,1,8,.nilFn,.nilFunc,none,false,false⟩:=by kernel_rfl
@[simp] theorem T_274:T 274=some ⟨.func #[25,277] #[3] false,1,8,.nilFn,.nilFunc,none,false,false⟩:=by kernel_rfl
@[simp] theorem T_275:T 275=some ⟨.func #[267,276] #[4] false,1,8,.nilFn,.nilFunc,none,false,false⟩:=by kernel_rfl
@[simp] theorem T_276:T 276=some ⟨.func #[269] #[4] false,1,8,.nilFn,.nilFunc,none,false,false⟩:=by kernel_rfl
@[simp] theorem T_277:T 277=some ⟨.func #[267] #[4] false,1,8,.nilFn,.nilFunc,none,false,false⟩:=by kernel_rfl
@[simp] theorem T_278:T 278=some ⟨.slice 126,1,24,.nilS,.slice none 0 0,none,false,false⟩:=by kernel_rfl
@[simp] theorem T_279:T 279=some ⟨.func #[126,3] #[126] false,1,8,.nilFn,.nilFunc,none,false,false⟩:=by kernel_rfl
@[simp] theorem T_280:T 280=some ⟨.func #[3,192] #[42] false,1,8,.nilFn,.nilFunc,none,false,false⟩:=by kernel_rfl
@[simp] theorem T_281:T 281=some ⟨.pointer 284,1,8,.nilP,.pointer none,none,false,false⟩:=by kernel_rfl
@[simp] theorem T_282:T 282=some ⟨.func #[3,192] #[39] false,1,8,.nilFn,.nilFunc,none,false,false⟩:=by kernel_rfl
@[simp] theorem T_283:T 283=some ⟨.struct #[⟨ "w",39,0,false, "", "dross/cluster",0⟩,⟨ "labels",26,1,false, "", "dross/cluster",24⟩,⟨ "best",26,2,false, "", "dross/cluster",48⟩,⟨ "least",2,3,false, "", "dross/cluster",72⟩],4,80,.agg [.nilS,.nilS,.nilS,.int .i64 0],.agg #[.slice none 0 0,.slice none 0 0,.slice none 0 0,.int .i64 0],none,true,false⟩:=by kernel_rfl
@[simp] theorem T_284:T 284=some ⟨.struct #[⟨ "w",39,0,false, "", "dross/cluster",0⟩,⟨ "labels",26,1,false, "", "dross/cluster",24⟩,⟨ "best",26,2,false, "", "dross/cluster",48⟩,⟨ "least",2,3,false, "", "dross/cluster",72⟩],4,80,.agg [.nilS,.nilS,.nilS,.int .i64 0],.agg #[.slice none 0 0,.slice none 0 0,.slice none 0 0,.int .i64 0],none,true,false⟩:=by kernel_rfl
@[simp] theorem T_285:T 285=some ⟨.func #[3,3,2] #[] false,1,8,.nilFn,.nilFunc,none,false,false⟩:=by kernel_rfl
@[simp] theorem T_286:T 286=some ⟨.func #[26,3] #[26] false,1,8,.nilFn,.nilFunc,none,false,false⟩:=by kernel_rfl
@[simp] theorem T_287:T 287=some ⟨.func #[39,3,3,135] #[] false,1,8,.nilFn,.nilFunc,none,false,false⟩:=by kernel_rfl
@[simp] theorem T_288:T 288=some ⟨.int .i64,1,8,.int .i64 0,.int .i64 0,some (.int .i64),false,false⟩:=by kernel_rfl
@[simp] theorem T_290:T 290=some ⟨.func #[39,3,3,135] #[3,288] false,1,8,.nilFn,.nilFunc,none,false,false⟩:=by kernel_rfl
@[simp] theorem T_291:T 291=some ⟨.func #[39,3,3,135] #[4] false,1,8,.nilFn,.nilFunc,none,false,false⟩:=by kernel_rfl
@[simp] theorem T_292:T 292=some ⟨.func #[39,3,3,3,135] #[3] false,1,8,.nilFn,.nilFunc,none,false,false⟩:=by kernel_rfl
@[simp] theorem T_293:T 293=some ⟨.func #[39,3,3,3,135] #[3,4] false,1,8,.nilFn,.nilFunc,none,false,false⟩:=by kernel_rfl
@[simp] theorem T_294:T 294=some ⟨.func #[58] #[3] false,1,8,.nilFn,.nilFunc,none,false,false⟩:=by kernel_rfl
@[simp] theorem T_295:T 295=some ⟨.func #[296] #[3] false,1,8,.nilFn,.nilFunc,none,false,false⟩:=by kernel_rfl
@[simp] theorem T_296:T 296=some ⟨.int .u64,1,8,.int .u64 0,.int .u64 0,some (.int .u64),false,false⟩:=by kernel_rfl
@[simp] theorem T_297:T 297=some ⟨.func #[106] #[4] false,1,8,.nilFn,.nilFunc,none,false,false⟩:=by kernel_rfl
@[simp] theorem T_298:T 298=some ⟨.func #[51,79,79,3] #[4] false,1,8,.nilFn,.nilFunc,none,false,false⟩:=by kernel_rfl
@[simp] theorem T_299:T 299=some ⟨.func #[106,2] #[3] false,1,8,.nilFn,.nilFunc,none,false,false⟩:=by kernel_rfl
@[simp] theorem T_300:T 300=some ⟨.func #[51,51] #[3] false,1,8,.nilFn,.nilFunc,none,false,false⟩:=by kernel_rfl
@[simp] theorem T_301:T 301=some ⟨.func #[5] #[4] false,1,8,.nilFn,.nilFunc,none,false,false⟩:=by kernel_rfl
@[simp] theorem T_302:T 302=some ⟨.func #[3,81] #[4] false,1,8,.nilFn,.nilFunc,none,false,false⟩:=by kernel_rfl
@[simp] theorem T_303:T 303=some ⟨.func #[92,304] #[3] false,1,8,.nilFn,.nilFunc,none,false,false⟩:=by kernel_rfl
@[simp] theorem T_304:T 304=some ⟨.func #[32] #[4] false,1,8,.nilFn,.nilFunc,none,false,false⟩:=by kernel_rfl
@[simp] theorem T_305:T 305=some ⟨.func #[30,2,306] #[3,4] false,1,8,.nilFn,.nilFunc,none,false,false⟩:=by kernel_rfl
@[simp] theorem T_306:T 306=some ⟨.func #[53,2] #[3] false,1,8,.nilFn,.nilFunc,none,false,false⟩:=by kernel_rfl
@[simp] theorem T_307:T 307=some ⟨.func #[30,3,30] #[30] true,1,8,.nilFn,.nilFunc,none,false,false⟩:=by kernel_rfl
@[simp] theorem T_308:T 308=some ⟨.func #[356] #[30] true,1,8,.nilFn,.nilFunc,none,false,false⟩:=by kernel_rfl
@[simp] theorem T_309:T 309=some ⟨.func #[51,228] #[3] false,1,8,.nilFn,.nilFunc,none,false,false⟩:=by kernel_rfl
@[simp] theorem T_310:T 310=some ⟨.slice 72,1,24,.nilS,.slice none 0 0,none,false,false⟩:=by kernel_rfl
@[simp] theorem T_312:T 312=some ⟨.func #[32,74] #[310,42] false,1,8,.nilFn,.nilFunc,none,false,false⟩:=by kernel_rfl
@[simp] theorem T_313:T 313=some ⟨.func #[32,74] #[39,42] false,1,8,.nilFn,.nilFunc,none,false,false⟩:=by kernel_rfl
@[simp] theorem T_314:T 314=some ⟨.func #[2,2] #[4] false,1,8,.nilFn,.nilFunc,none,false,false⟩:=by kernel_rfl
@[simp] theorem T_315:T 315=some ⟨.func #[26,316] #[] false,1,8,.nilFn,.nilFunc,none,false,false⟩:=by kernel_rfl
@[simp] theorem T_316:T 316=some ⟨.func #[3,3] #[3] false,1,8,.nilFn,.nilFunc,none,false,false⟩:=by kernel_rfl
@[simp] theorem T_317:T 317=some ⟨.func #[26,3] #[4] false,1,8,.nilFn,.nilFunc,none,false,false⟩:=by kernel_rfl
@[simp] theorem T_318:T 318=some ⟨.struct #[⟨ "in",161,0,false, "", "dross/hitset",0⟩,⟨ "marks",26,2,false, "", "dross/hitset",48⟩,⟨ "left",3,3,false, "", "dross/hitset",72⟩],4,80,.agg [.nilS,.nilS,.nilS,.int .i64 0],.agg #[.slice none 0 0,.slice none 0 0,.slice none 0 0,.int .i64 0],none,true,false⟩:=by kernel_rfl
@[simp] theorem T_319:T 319=some ⟨.struct #[⟨ "in",161,0,false, "", "dross/hitset",0⟩,⟨ "marks",26,2,false, "", "dross/hitset",48⟩,⟨ "left",3,3,false, "", "dross/hitset",72⟩],4,80,.agg [.nilS,.nilS,.nilS,.int .i64 0],.agg #[.slice none 0 0,.slice none 0 0,.slice none 0 0,.int .i64 0],none,true,false⟩:=by kernel_rfl
@[simp] theorem T_320:T 320=some ⟨.slice 375,1,24,.nilS,.slice none 0 0,none,false,false⟩:=by kernel_rfl
@[simp] theorem T_322:T 322=some ⟨.func #[] #[320,2] false,1,8,.nilFn,.nilFunc,none,false,false⟩:=by kernel_rfl
@[simp] theorem T_323:T 323=some ⟨.func #[] #[3] false,1,8,.nilFn,.nilFunc,none,false,false⟩:=by kernel_rfl
@[simp] theorem T_324:T 324=some ⟨.struct #[⟨ "Vertex",3,0,false, "", "",0⟩,⟨ "Shares",320,1,false, "", "",8⟩],2,32,.agg [.int .i64 0,.nilS],.agg #[.int .i64 0,.slice none 0 0],none,true,false⟩:=by kernel_rfl
@[simp] theorem T_325:T 325=some ⟨.struct #[⟨ "Vertex",3,0,false, "", "",0⟩,⟨ "Shares",320,1,false, "", "",8⟩],2,32,.agg [.int .i64 0,.nilS],.agg #[.int .i64 0,.slice none 0 0],none,true,false⟩:=by kernel_rfl
@[simp] theorem T_326:T 326=some ⟨.func #[376] #[107] true,1,8,.nilFn,.nilFunc,none,false,false⟩:=by kernel_rfl
@[simp] theorem T_327:T 327=some ⟨.func #[113,3,3,3,249] #[] false,1,8,.nilFn,.nilFunc,none,false,false⟩:=by kernel_rfl
@[simp] theorem T_328:T 328=some ⟨.func #[26] #[3] true,1,8,.nilFn,.nilFunc,none,false,false⟩:=by kernel_rfl
@[simp] theorem T_329:T 329=some ⟨.func #[3,3,59] #[4] false,1,8,.nilFn,.nilFunc,none,false,false⟩:=by kernel_rfl
@[simp] theorem T_330:T 330=some ⟨.func #[3,3] #[4] false,1,8,.nilFn,.nilFunc,none,false,false⟩:=by kernel_rfl
@[simp] theorem T_331:T 331=some ⟨.func #[114,3,3,178] #[] false,1,8,.nilFn,.nilFunc,none,false,false⟩:=by kernel_rfl
@[simp] theorem T_332:T 332=some ⟨.func #[114,3,3,178] #[3,288] false,1,8,.nilFn,.nilFunc,none,false,false⟩:=by kernel_rfl
@[simp] theorem T_333:T 333=some ⟨.func #[114,3,3,178] #[4] false,1,8,.nilFn,.nilFunc,none,false,false⟩:=by kernel_rfl
@[simp] theorem T_334:T 334=some ⟨.func #[114,3,3,3,178] #[3] false,1,8,.nilFn,.nilFunc,none,false,false⟩:=by kernel_rfl
@[simp] theorem T_335:T 335=some ⟨.func #[114,3,3,3,178] #[3,4] false,1,8,.nilFn,.nilFunc,none,false,false⟩:=by kernel_rfl
@[simp] theorem T_336:T 336=some ⟨.func #[9,9,3] #[4,42] false,1,8,.nilFn,.nilFunc,none,false,false⟩:=by kernel_rfl
@[simp] theorem T_337:T 337=some ⟨.struct #[⟨ "Num",2,0,false, "", "",0⟩,⟨ "Den",2,1,false, "", "",8⟩],2,16,.agg [.int .i64 0,.int .i64 0],.agg #[.int .i64 0,.int .i64 0],none,true,false⟩:=by kernel_rfl
@[simp] theorem T_338:T 338=some ⟨.struct #[⟨ "Num",2,0,false, "", "",0⟩,⟨ "Den",2,1,false, "", "",8⟩],2,16,.agg [.int .i64 0,.int .i64 0],.agg #[.int .i64 0,.int .i64 0],none,true,false⟩:=by kernel_rfl
@[simp] theorem T_340:T 340=some ⟨.func #[9,9,3] #[338,42] false,1,8,.nilFn,.nilFunc,none,false,false⟩:=by kernel_rfl
@[simp] theorem T_341:T 341=some ⟨.func #[26,3,3,3] #[] false,1,8,.nilFn,.nilFunc,none,false,false⟩:=by kernel_rfl
@[simp] theorem T_342:T 342=some ⟨.func #[267,276] #[3] false,1,8,.nilFn,.nilFunc,none,false,false⟩:=by kernel_rfl
@[simp] theorem T_343:T 343=some ⟨.func #[2,4] #[2] false,1,8,.nilFn,.nilFunc,none,false,false⟩:=by kernel_rfl
@[simp] theorem T_345:T 345=some ⟨.func #[201,201] #[201,201] false,1,8,.nilFn,.nilFunc,none,false,false⟩:=by kernel_rfl
@[simp] theorem T_346:T 346=some ⟨.map 3 3,1,8,.nilM,.map none,none,false,false⟩:=by kernel_rfl
@[simp] theorem T_347:T 347=some ⟨.int .u64,1,8,.int .u64 0,.int .u64 0,some (.int .u64),false,false⟩:=by kernel_rfl
@[simp] theorem T_348:T 348=some ⟨.func #[3] #[201] false,1,8,.nilFn,.nilFunc,none,false,false⟩:=by kernel_rfl
@[simp] theorem T_349:T 349=some ⟨.func #[] #[296] false,1,8,.nilFn,.nilFunc,none,false,false⟩:=by kernel_rfl
@[simp] theorem T_350:T 350=some ⟨.func #[39,3,351,135] #[3] false,1,8,.nilFn,.nilFunc,none,false,false⟩:=by kernel_rfl
@[simp] theorem T_351:T 351=some ⟨.pointer 3,1,8,.nilP,.pointer none,none,false,false⟩:=by kernel_rfl
@[simp] theorem T_352:T 352=some ⟨.func #[39,3,3,3,351,135] #[3] false,1,8,.nilFn,.nilFunc,none,false,false⟩:=by kernel_rfl
@[simp] theorem T_353:T 353=some ⟨.func #[51,79] #[3] false,1,8,.nilFn,.nilFunc,none,false,false⟩:=by kernel_rfl
@[simp] theorem T_354:T 354=some ⟨.func #[30,30] #[4] false,1,8,.nilFn,.nilFunc,none,false,false⟩:=by kernel_rfl
@[simp] theorem T_355:T 355=some ⟨.func #[30,3] #[] false,1,8,.nilFn,.nilFunc,none,false,false⟩:=by kernel_rfl
@[simp] theorem T_356:T 356=some ⟨.slice 30,1,24,.nilS,.slice none 0 0,none,false,false⟩:=by kernel_rfl
@[simp] theorem T_357:T 357=some ⟨.func #[30,3] #[30] false,1,8,.nilFn,.nilFunc,none,false,false⟩:=by kernel_rfl
@[simp] theorem T_358:T 358=some ⟨.func #[3,61] #[310,42] false,1,8,.nilFn,.nilFunc,none,false,false⟩:=by kernel_rfl
@[simp] theorem T_359:T 359=some ⟨.func #[3,72] #[4] false,1,8,.nilFn,.nilFunc,none,false,false⟩:=by kernel_rfl
@[simp] theorem T_360:T 360=some ⟨.func #[3,67] #[4] false,1,8,.nilFn,.nilFunc,none,false,false⟩:=by kernel_rfl
@[simp] theorem T_361:T 361=some ⟨.func #[3,69] #[4] false,1,8,.nilFn,.nilFunc,none,false,false⟩:=by kernel_rfl
@[simp] theorem T_362:T 362=some ⟨.func #[32,67] #[39,42] false,1,8,.nilFn,.nilFunc,none,false,false⟩:=by kernel_rfl
@[simp] theorem T_363:T 363=some ⟨.func #[32,69] #[39,42] false,1,8,.nilFn,.nilFunc,none,false,false⟩:=by kernel_rfl
@[simp] theorem T_364:T 364=some ⟨.func #[32,72] #[39,42] false,1,8,.nilFn,.nilFunc,none,false,false⟩:=by kernel_rfl
@[simp] theorem T_365:T 365=some ⟨.map 366 4,1,8,.nilM,.map none,none,false,false⟩:=by kernel_rfl
@[simp] theorem T_366:T 366=some ⟨.array 3 2,3,24,.agg [.int .i64 0,.int .i64 0,.int .i64 0],.agg #[.int .i64 0,.int .i64 0,.int .i64 0],some (.arr 3),true,false⟩:=by kernel_rfl
@[simp] theorem T_367:T 367=some ⟨.func #[106] #[366] false,1,8,.nilFn,.nilFunc,none,false,false⟩:=by kernel_rfl
@[simp] theorem T_368:T 368=some ⟨.func #[39] #[106] true,1,8,.nilFn,.nilFunc,none,false,false⟩:=by kernel_rfl
@[simp] theorem T_369:T 369=some ⟨.func #[39,147] #[39] false,1,8,.nilFn,.nilFunc,none,false,false⟩:=by kernel_rfl
@[simp] theorem T_370:T 370=some ⟨.func #[26,3,316] #[] false,1,8,.nilFn,.nilFunc,none,false,false⟩:=by kernel_rfl
@[simp] theorem T_371:T 371=some ⟨.func #[26,3] #[3] false,1,8,.nilFn,.nilFunc,none,false,false⟩:=by kernel_rfl
@[simp] theorem T_372:T 372=some ⟨.func #[130,373] #[4] false,1,8,.nilFn,.nilFunc,none,false,false⟩:=by kernel_rfl
@[simp] theorem T_373:T 373=some ⟨.func #[26] #[4] false,1,8,.nilFn,.nilFunc,none,false,false⟩:=by kernel_rfl
@[simp] theorem T_374:T 374=some ⟨.struct #[⟨ "Edge",3,0,false, "", "",0⟩,⟨ "Amount",2,1,false, "", "",8⟩],2,16,.agg [.int .i64 0,.int .i64 0],.agg #[.int .i64 0,.int .i64 0],none,true,false⟩:=by kernel_rfl
@[simp] theorem T_375:T 375=some ⟨.struct #[⟨ "Edge",3,0,false, "", "",0⟩,⟨ "Amount",2,1,false, "", "",8⟩],2,16,.agg [.int .i64 0,.int .i64 0],.agg #[.int .i64 0,.int .i64 0],none,true,false⟩:=by kernel_rfl
@[simp] theorem T_376:T 376=some ⟨.slice 107,1,24,.nilS,.slice none 0 0,none,false,false⟩:=by kernel_rfl
@[simp] theorem T_377:T 377=some ⟨.func #[107,3] #[107] false,1,8,.nilFn,.nilFunc,none,false,false⟩:=by kernel_rfl
@[simp] theorem T_378:T 378=some ⟨.func #[113,3,3,249] #[] false,1,8,.nilFn,.nilFunc,none,false,false⟩:=by kernel_rfl
@[simp] theorem T_379:T 379=some ⟨.func #[113,3,3,249] #[3,288] false,1,8,.nilFn,.nilFunc,none,false,false⟩:=by kernel_rfl
@[simp] theorem T_380:T 380=some ⟨.func #[113,3,3,249] #[4] false,1,8,.nilFn,.nilFunc,none,false,false⟩:=by kernel_rfl
@[simp] theorem T_381:T 381=some ⟨.func #[113,3,3,3,249] #[3] false,1,8,.nilFn,.nilFunc,none,false,false⟩:=by kernel_rfl
@[simp] theorem T_382:T 382=some ⟨.func #[113,3,3,3,249] #[3,4] false,1,8,.nilFn,.nilFunc,none,false,false⟩:=by kernel_rfl
@[simp] theorem T_383:T 383=some ⟨.func #[114,3,351,178] #[3] false,1,8,.nilFn,.nilFunc,none,false,false⟩:=by kernel_rfl
@[simp] theorem T_384:T 384=some ⟨.func #[114,3,3,3,351,178] #[3] false,1,8,.nilFn,.nilFunc,none,false,false⟩:=by kernel_rfl
@[simp] theorem T_386:T 386=some ⟨.func #[9,9] #[3,42] false,1,8,.nilFn,.nilFunc,none,false,false⟩:=by kernel_rfl
@[simp] theorem T_387:T 387=some ⟨.func #[29] #[4] true,1,8,.nilFn,.nilFunc,none,false,false⟩:=by kernel_rfl
@[simp] theorem T_389:T 389=some ⟨.func #[9,3] #[29,42] false,1,8,.nilFn,.nilFunc,none,false,false⟩:=by kernel_rfl
@[simp] theorem T_390:T 390=some ⟨.func #[2,2] #[338,42] false,1,8,.nilFn,.nilFunc,none,false,false⟩:=by kernel_rfl
@[simp] theorem T_391:T 391=some ⟨.func #[29,29] #[3] false,1,8,.nilFn,.nilFunc,none,false,false⟩:=by kernel_rfl
@[simp] theorem T_392:T 392=some ⟨.func #[26,3,3] #[] false,1,8,.nilFn,.nilFunc,none,false,false⟩:=by kernel_rfl
@[simp] theorem T_393:T 393=some ⟨.func #[26,3,3] #[3,288] false,1,8,.nilFn,.nilFunc,none,false,false⟩:=by kernel_rfl
@[simp] theorem T_394:T 394=some ⟨.func #[26,3,3] #[4] false,1,8,.nilFn,.nilFunc,none,false,false⟩:=by kernel_rfl
@[simp] theorem T_395:T 395=some ⟨.func #[26,3,3,3] #[3] false,1,8,.nilFn,.nilFunc,none,false,false⟩:=by kernel_rfl
@[simp] theorem T_396:T 396=some ⟨.func #[26,3,3,3] #[3,4] false,1,8,.nilFn,.nilFunc,none,false,false⟩:=by kernel_rfl
@[simp] theorem T_398:T 398=some ⟨.func #[58,58] #[58,58] false,1,8,.nilFn,.nilFunc,none,false,false⟩:=by kernel_rfl
@[simp] theorem T_400:T 400=some ⟨.func #[296,296] #[296,296] false,1,8,.nilFn,.nilFunc,none,false,false⟩:=by kernel_rfl
@[simp] theorem T_401:T 401=some ⟨.pointer 347,1,8,.nilP,.pointer none,none,false,false⟩:=by kernel_rfl
@[simp] theorem T_403:T 403=some ⟨.func #[39,3,3,351,135] #[3,3] false,1,8,.nilFn,.nilFunc,none,false,false⟩:=by kernel_rfl
@[simp] theorem T_404:T 404=some ⟨.func #[59] #[26] false,1,8,.nilFn,.nilFunc,none,false,false⟩:=by kernel_rfl
@[simp] theorem T_405:T 405=some ⟨.struct #[⟨ "Var",3,0,false, "", "",0⟩,⟨ "Attr",3,1,false, "", "",8⟩,⟨ "Value",79,2,false, "", "",16⟩],5,48,.agg [.int .i64 0,.int .i64 0,.int .i64 0,.int .i64 0,.str oF],.agg #[.int .i64 0,.int .i64 0,.int .i64 0,.int .i64 0,.string oF],none,true,false⟩:=by kernel_rfl
@[simp] theorem T_406:T 406=some ⟨.struct #[⟨ "Var",3,0,false, "", "",0⟩,⟨ "Attr",3,1,false, "", "",8⟩,⟨ "Value",79,2,false, "", "",16⟩],5,48,.agg [.int .i64 0,.int .i64 0,.int .i64 0,.int .i64 0,.str oF],.agg #[.int .i64 0,.int .i64 0,.int .i64 0,.int .i64 0,.string oF],none,true,false⟩:=by kernel_rfl
@[simp] theorem T_407:T 407=some ⟨.struct #[⟨ "Left",406,0,false, "", "",0⟩,⟨ "Op",3,5,false, "", "",48⟩,⟨ "Right",406,6,false, "", "",56⟩],11,104,.agg [.int .i64 0,.int .i64 0,.int .i64 0,.int .i64 0,.str oF,.int .i64 0,.int .i64 0,.int .i64 0,.int .i64 0,.int .i64 0,.str oF],.agg #[.int .i64 0,.int .i64 0,.int .i64 0,.int .i64 0,.string oF,.int .i64 0,.int .i64 0,.int .i64 0,.int .i64 0,.int .i64 0,.string oF],none,true,false⟩:=by kernel_rfl
@[simp] theorem T_408:T 408=some ⟨.struct #[⟨ "Left",406,0,false, "", "",0⟩,⟨ "Op",3,5,false, "", "",48⟩,⟨ "Right",406,6,false, "", "",56⟩],11,104,.agg [.int .i64 0,.int .i64 0,.int .i64 0,.int .i64 0,.str oF,.int .i64 0,.int .i64 0,.int .i64 0,.int .i64 0,.int .i64 0,.str oF],.agg #[.int .i64 0,.int .i64 0,.int .i64 0,.int .i64 0,.string oF,.int .i64 0,.int .i64 0,.int .i64 0,.int .i64 0,.int .i64 0,.string oF],none,true,false⟩:=by kernel_rfl
@[simp] theorem T_409:T 409=some ⟨.func #[3,3] #[408] false,1,8,.nilFn,.nilFunc,none,false,false⟩:=by kernel_rfl
@[simp] theorem T_410:T 410=some ⟨.func #[70,412] #[4] false,1,8,.nilFn,.nilFunc,none,false,false⟩:=by kernel_rfl
@[simp] theorem T_411:T 411=some ⟨.func #[3,3,406] #[4] false,1,8,.nilFn,.nilFunc,none,false,false⟩:=by kernel_rfl
@[simp] theorem T_412:T 412=some ⟨.func #[408] #[4] false,1,8,.nilFn,.nilFunc,none,false,false⟩:=by kernel_rfl
@[simp] theorem T_413:T 413=some ⟨.func #[65,416] #[4] false,1,8,.nilFn,.nilFunc,none,false,false⟩:=by kernel_rfl
@[simp] theorem T_414:T 414=some ⟨.struct #[⟨ "Any",4,0,false, "", "",0⟩,⟨ "Value",79,1,false, "", "",8⟩],4,40,.agg [.bool false,.int .i64 0,.int .i64 0,.str oF],.agg #[.bool false,.int .i64 0,.int .i64 0,.string oF],none,true,false⟩:=by kernel_rfl
@[simp] theorem T_415:T 415=some ⟨.struct #[⟨ "Any",4,0,false, "", "",0⟩,⟨ "Value",79,1,false, "", "",8⟩],4,40,.agg [.bool false,.int .i64 0,.int .i64 0,.str oF],.agg #[.bool false,.int .i64 0,.int .i64 0,.string oF],none,true,false⟩:=by kernel_rfl
@[simp] theorem T_416:T 416=some ⟨.func #[415] #[4] false,1,8,.nilFn,.nilFunc,none,false,false⟩:=by kernel_rfl
@[simp] theorem T_417:T 417=some ⟨.func #[3,26] #[4] false,1,8,.nilFn,.nilFunc,none,false,false⟩:=by kernel_rfl
@[simp] theorem T_418:T 418=some ⟨.func #[67,51] #[4] false,1,8,.nilFn,.nilFunc,none,false,false⟩:=by kernel_rfl
@[simp] theorem T_419:T 419=some ⟨.func #[415,79] #[4] false,1,8,.nilFn,.nilFunc,none,false,false⟩:=by kernel_rfl
@[simp] theorem T_420:T 420=some ⟨.func #[67] #[415] false,1,8,.nilFn,.nilFunc,none,false,false⟩:=by kernel_rfl
@[simp] theorem T_421:T 421=some ⟨.func #[67,51,51] #[4] false,1,8,.nilFn,.nilFunc,none,false,false⟩:=by kernel_rfl
@[simp] theorem T_422:T 422=some ⟨.func #[32,137] #[42] false,1,8,.nilFn,.nilFunc,none,false,false⟩:=by kernel_rfl
@[simp] theorem T_423:T 423=some ⟨.func #[53,53,69] #[3] false,1,8,.nilFn,.nilFunc,none,false,false⟩:=by kernel_rfl
@[simp] theorem T_424:T 424=some ⟨.func #[32,72] #[42] false,1,8,.nilFn,.nilFunc,none,false,false⟩:=by kernel_rfl
@[simp] theorem T_425:T 425=some ⟨.func #[32,72,30,427] #[4] false,1,8,.nilFn,.nilFunc,none,false,false⟩:=by kernel_rfl
@[simp] theorem T_426:T 426=some ⟨.func #[106] #[] false,1,8,.nilFn,.nilFunc,none,false,false⟩:=by kernel_rfl
@[simp] theorem T_427:T 427=some ⟨.func #[30] #[4] false,1,8,.nilFn,.nilFunc,none,false,false⟩:=by kernel_rfl
@[simp] theorem T_428:T 428=some ⟨.func #[106,3] #[106] false,1,8,.nilFn,.nilFunc,none,false,false⟩:=by kernel_rfl
@[simp] theorem T_429:T 429=some ⟨.func #[26,3,3,316] #[] false,1,8,.nilFn,.nilFunc,none,false,false⟩:=by kernel_rfl
@[simp] theorem T_430:T 430=some ⟨.func #[26,3,3,3,316] #[] false,1,8,.nilFn,.nilFunc,none,false,false⟩:=by kernel_rfl
@[simp] theorem T_431:T 431=some ⟨.func #[130,373] #[3] false,1,8,.nilFn,.nilFunc,none,false,false⟩:=by kernel_rfl
@[simp] theorem T_432:T 432=some ⟨.func #[113,3,351,249] #[3] false,1,8,.nilFn,.nilFunc,none,false,false⟩:=by kernel_rfl
@[simp] theorem T_433:T 433=some ⟨.func #[113,3,3,3,351,249] #[3] false,1,8,.nilFn,.nilFunc,none,false,false⟩:=by kernel_rfl
@[simp] theorem T_434:T 434=some ⟨.func #[114,3,3,351,178] #[3,3] false,1,8,.nilFn,.nilFunc,none,false,false⟩:=by kernel_rfl
@[simp] theorem T_435:T 435=some ⟨.func #[9,9] #[130] false,1,8,.nilFn,.nilFunc,none,false,false⟩:=by kernel_rfl
@[simp] theorem T_436:T 436=some ⟨.func #[29,153] #[4] false,1,8,.nilFn,.nilFunc,none,false,false⟩:=by kernel_rfl
@[simp] theorem T_437:T 437=some ⟨.func #[9,3] #[9] false,1,8,.nilFn,.nilFunc,none,false,false⟩:=by kernel_rfl
@[simp] theorem T_438:T 438=some ⟨.func #[29] #[] false,1,8,.nilFn,.nilFunc,none,false,false⟩:=by kernel_rfl
@[simp] theorem T_439:T 439=some ⟨.func #[2] #[296] false,1,8,.nilFn,.nilFunc,none,false,false⟩:=by kernel_rfl
@[simp] theorem T_440:T 440=some ⟨.func #[296,296] #[296] false,1,8,.nilFn,.nilFunc,none,false,false⟩:=by kernel_rfl
@[simp] theorem T_441:T 441=some ⟨.func #[4,296,296] #[338,42] false,1,8,.nilFn,.nilFunc,none,false,false⟩:=by kernel_rfl
@[simp] theorem T_442:T 442=some ⟨.func #[26,3,351] #[3] false,1,8,.nilFn,.nilFunc,none,false,false⟩:=by kernel_rfl
@[simp] theorem T_443:T 443=some ⟨.func #[26,3,3,3,351] #[3] false,1,8,.nilFn,.nilFunc,none,false,false⟩:=by kernel_rfl
@[simp] theorem T_444:T 444=some ⟨.func #[30] #[] false,1,8,.nilFn,.nilFunc,none,false,false⟩:=by kernel_rfl
@[simp] theorem T_445:T 445=some ⟨.func #[3,3] #[406] false,1,8,.nilFn,.nilFunc,none,false,false⟩:=by kernel_rfl
@[simp] theorem T_446:T 446=some ⟨.func #[70,412] #[3] false,1,8,.nilFn,.nilFunc,none,false,false⟩:=by kernel_rfl
@[simp] theorem T_447:T 447=some ⟨.func #[65,416] #[3] false,1,8,.nilFn,.nilFunc,none,false,false⟩:=by kernel_rfl
@[simp] theorem T_448:T 448=some ⟨.func #[53,53,26] #[3] false,1,8,.nilFn,.nilFunc,none,false,false⟩:=by kernel_rfl
@[simp] theorem T_449:T 449=some ⟨.func #[30,70] #[4] false,1,8,.nilFn,.nilFunc,none,false,false⟩:=by kernel_rfl
@[simp] theorem T_450:T 450=some ⟨.func #[30] #[30] false,1,8,.nilFn,.nilFunc,none,false,false⟩:=by kernel_rfl
@[simp] theorem T_451:T 451=some ⟨.func #[106,3,3,3] #[] false,1,8,.nilFn,.nilFunc,none,false,false⟩:=by kernel_rfl
@[simp] theorem T_452:T 452=some ⟨.func #[113,3,3,351,249] #[3,3] false,1,8,.nilFn,.nilFunc,none,false,false⟩:=by kernel_rfl
@[simp] theorem T_453:T 453=some ⟨.func #[29,153] #[3] false,1,8,.nilFn,.nilFunc,none,false,false⟩:=by kernel_rfl
@[simp] theorem T_454:T 454=some ⟨.func #[9,9] #[4] false,1,8,.nilFn,.nilFunc,none,false,false⟩:=by kernel_rfl
@[simp] theorem T_455:T 455=some ⟨.pointer 457,1,8,.nilP,.pointer none,none,false,false⟩:=by kernel_rfl
@[simp] theorem T_456:T 456=some ⟨.struct #[⟨ "addr",455,0,false, "", "strings",0⟩,⟨ "buf",99,1,false, "", "strings",8⟩],2,32,.agg [.nilP,.nilS],.agg #[.pointer none,.slice none 0 0],none,true,false⟩:=by kernel_rfl
@[simp] theorem T_457:T 457=some ⟨.struct #[⟨ "addr",455,0,false, "", "strings",0⟩,⟨ "buf",99,1,false, "", "strings",8⟩],2,32,.agg [.nilP,.nilS],.agg #[.pointer none,.slice none 0 0],none,true,false⟩:=by kernel_rfl
@[simp] theorem T_458:T 458=some ⟨.func #[3] #[] false,1,8,.nilFn,.nilFunc,none,false,false⟩:=by kernel_rfl
@[simp] theorem T_459:T 459=some ⟨.interface #[("Error",463)],1,16,.nilI,.nilIface,none,false,false⟩:=by kernel_rfl
@[simp] theorem T_460:T 460=some ⟨.interface #[("Error",463)],1,16,.nilI,.nilIface,none,false,false⟩:=by kernel_rfl
@[simp] theorem T_462:T 462=some ⟨.func #[9] #[3,460] false,1,8,.nilFn,.nilFunc,none,false,false⟩:=by kernel_rfl
@[simp] theorem T_463:T 463=some ⟨.func #[] #[9] false,1,8,.nilFn,.nilFunc,none,false,false⟩:=by kernel_rfl
@[simp] theorem T_464:T 464=some ⟨.func #[29,3,3,3] #[] false,1,8,.nilFn,.nilFunc,none,false,false⟩:=by kernel_rfl
@[simp] theorem T_465:T 465=some ⟨.func #[26,3,3,351] #[3,3] false,1,8,.nilFn,.nilFunc,none,false,false⟩:=by kernel_rfl
@[simp] theorem T_466:T 466=some ⟨.array 32 5,32,32,.agg [.int .u8 0,.int .u8 0,.int .u8 0,.int .u8 0,.int .u8 0,.int .u8 0,.int .u8 0,.int .u8 0,.int .u8 0,.int .u8 0,.int .u8 0,.int .u8 0,.int .u8 0,.int .u8 0,.int .u8 0,.int .u8 0,.int .u8 0,.int .u8 0,.int .u8 0,.int .u8 0,.int .u8 0,.int .u8 0,.int .u8 0,.int .u8 0,.int .u8 0,.int .u8 0,.int .u8 0,.int .u8 0,.int .u8 0,.int .u8 0,.int .u8 0,.int .u8 0],.agg #[.int .u8 0,.int .u8 0,.int .u8 0,.int .u8 0,.int .u8 0,.int .u8 0,.int .u8 0,.int .u8 0,.int .u8 0,.int .u8 0,.int .u8 0,.int .u8 0,.int .u8 0,.int .u8 0,.int .u8 0,.int .u8 0,.int .u8 0,.int .u8 0,.int .u8 0,.int .u8 0,.int .u8 0,.int .u8 0,.int .u8 0,.int .u8 0,.int .u8 0,.int .u8 0,.int .u8 0,.int .u8 0,.int .u8 0,.int .u8 0,.int .u8 0,.int .u8 0],none,true,false⟩:=by kernel_rfl
@[simp] theorem T_467:T 467=some ⟨.func #[30,406] #[79] false,1,8,.nilFn,.nilFunc,none,false,false⟩:=by kernel_rfl
@[simp] theorem T_468:T 468=some ⟨.func #[106,3,3] #[] false,1,8,.nilFn,.nilFunc,none,false,false⟩:=by kernel_rfl
@[simp] theorem T_469:T 469=some ⟨.func #[106,3,3] #[3,288] false,1,8,.nilFn,.nilFunc,none,false,false⟩:=by kernel_rfl
@[simp] theorem T_470:T 470=some ⟨.func #[106,3,3] #[4] false,1,8,.nilFn,.nilFunc,none,false,false⟩:=by kernel_rfl
@[simp] theorem T_471:T 471=some ⟨.func #[106,3,3,3] #[3] false,1,8,.nilFn,.nilFunc,none,false,false⟩:=by kernel_rfl
@[simp] theorem T_472:T 472=some ⟨.func #[106,3,3,3] #[3,4] false,1,8,.nilFn,.nilFunc,none,false,false⟩:=by kernel_rfl
@[simp] theorem T_473:T 473=some ⟨.pointer 5,1,8,.nilP,.pointer none,none,false,false⟩:=by kernel_rfl
@[simp] theorem T_474:T 474=some ⟨.func #[29,3,3] #[] false,1,8,.nilFn,.nilFunc,none,false,false⟩:=by kernel_rfl
@[simp] theorem T_475:T 475=some ⟨.func #[29,3,3] #[3,288] false,1,8,.nilFn,.nilFunc,none,false,false⟩:=by kernel_rfl
@[simp] theorem T_476:T 476=some ⟨.func #[29,3,3] #[4] false,1,8,.nilFn,.nilFunc,none,false,false⟩:=by kernel_rfl
@[simp] theorem T_477:T 477=some ⟨.func #[29,3,3,3] #[3] false,1,8,.nilFn,.nilFunc,none,false,false⟩:=by kernel_rfl
@[simp] theorem T_478:T 478=some ⟨.func #[29,3,3,3] #[3,4] false,1,8,.nilFn,.nilFunc,none,false,false⟩:=by kernel_rfl
@[simp] theorem T_479:T 479=some ⟨.func #[106,3,351] #[3] false,1,8,.nilFn,.nilFunc,none,false,false⟩:=by kernel_rfl
@[simp] theorem T_480:T 480=some ⟨.func #[106,3,3,3,351] #[3] false,1,8,.nilFn,.nilFunc,none,false,false⟩:=by kernel_rfl
@[simp] theorem T_482:T 482=some ⟨.func #[481] #[481] false,1,8,.nilFn,.nilFunc,none,false,false⟩:=by kernel_rfl
@[simp] theorem T_483:T 483=some ⟨.func #[3] #[99] false,1,8,.nilFn,.nilFunc,none,false,false⟩:=by kernel_rfl
@[simp] theorem T_484:T 484=some ⟨.func #[29,3,351] #[3] false,1,8,.nilFn,.nilFunc,none,false,false⟩:=by kernel_rfl
@[simp] theorem T_485:T 485=some ⟨.func #[29,3,3,3,351] #[3] false,1,8,.nilFn,.nilFunc,none,false,false⟩:=by kernel_rfl
@[simp] theorem T_486:T 486=some ⟨.func #[106,3,3,351] #[3,3] false,1,8,.nilFn,.nilFunc,none,false,false⟩:=by kernel_rfl
@[simp] theorem T_487:T 487=some ⟨.func #[29,3,3,351] #[3,3] false,1,8,.nilFn,.nilFunc,none,false,false⟩:=by kernel_rfl
@[simp] theorem T_488:T 488=some ⟨.struct #[⟨ "_interface",17,0,false, "", "runtime",0⟩,⟨ "concrete",17,1,false, "", "runtime",8⟩,⟨ "asserted",17,2,false, "", "runtime",16⟩,⟨ "missingMethod",9,3,false, "", "runtime",24⟩],4,40,.agg [.nilP,.nilP,.nilP,.str oF],.agg #[.pointer none,.pointer none,.pointer none,.string oF],none,false,false⟩:=by kernel_rfl
@[simp] theorem T_489:T 489=some ⟨.struct #[⟨ "_interface",17,0,false, "", "runtime",0⟩,⟨ "concrete",17,1,false, "", "runtime",8⟩,⟨ "asserted",17,2,false, "", "runtime",16⟩,⟨ "missingMethod",9,3,false, "", "runtime",24⟩],4,40,.agg [.nilP,.nilP,.nilP,.str oF],.agg #[.pointer none,.pointer none,.pointer none,.string oF],none,false,false⟩:=by kernel_rfl
@[simp] theorem T_490:T 490=some ⟨.array 0 16,0,0,.agg [],.agg #[],none,true,false⟩:=by kernel_rfl
@[simp] theorem T_491:T 491=some ⟨.struct #[⟨ "_",490,0,false, "", "runtime",0⟩],0,0,.agg [],.agg #[],none,false,false⟩:=by kernel_rfl
@[simp] theorem T_492:T 492=some ⟨.struct #[⟨ "_",490,0,false, "", "runtime",0⟩],0,0,.agg [],.agg #[],none,false,false⟩:=by kernel_rfl
@[simp] theorem T_493:T 493=some ⟨.int .u8,1,1,.int .u8 0,.int .u8 0,some (.int .u8),false,false⟩:=by kernel_rfl
@[simp] theorem T_494:T 494=some ⟨.int .u8,1,1,.int .u8 0,.int .u8 0,some (.int .u8),false,false⟩:=by kernel_rfl
@[simp] theorem T_495:T 495=some ⟨.func #[481,481] #[4] false,1,8,.nilFn,.nilFunc,none,false,false⟩:=by kernel_rfl
@[simp] theorem T_496:T 496=some ⟨.int .i32,1,4,.int .i32 0,.int .i32 0,some (.int .i32),false,false⟩:=by kernel_rfl
@[simp] theorem T_497:T 497=some ⟨.int .i32,1,4,.int .i32 0,.int .i32 0,some (.int .i32),false,false⟩:=by kernel_rfl
@[simp] theorem T_498:T 498=some ⟨.struct #[⟨ "Size_",12,0,false, "", "",0⟩,⟨ "PtrBytes",12,1,false, "", "",8⟩,⟨ "Hash",58,2,false, "", "",16⟩,⟨ "TFlag",493,3,false, "", "",20⟩,⟨ "Align_",5,4,false, "", "",21⟩,⟨ "FieldAlign_",5,5,false, "", "",22⟩,⟨ "Kind_",494,6,false, "", "",23⟩,⟨ "Equal",495,7,false, "", "",24⟩,⟨ "GCData",473,8,false, "", "",32⟩,⟨ "Str",496,9,false, "", "",40⟩,⟨ "PtrToThis",497,10,false, "", "",44⟩],11,48,.agg [.int .u64 0,.int .u64 0,.int .u32 0,.int .u8 0,.int .u8 0,.int .u8 0,.int .u8 0,.nilFn,.nilP,.int .i32 0,.int .i32 0],.agg #[.int .u64 0,.int .u64 0,.int .u32 0,.int .u8 0,.int .u8 0,.int .u8 0,.int .u8 0,.nilFunc,.pointer none,.int .i32 0,.int .i32 0],none,false,false⟩:=by kernel_rfl
@[simp] theorem T_499:T 499=some ⟨.struct #[⟨ "Size_",12,0,false, "", "",0⟩,⟨ "PtrBytes",12,1,false, "", "",8⟩,⟨ "Hash",58,2,false, "", "",16⟩,⟨ "TFlag",493,3,false, "", "",20⟩,⟨ "Align_",5,4,false, "", "",21⟩,⟨ "FieldAlign_",5,5,false, "", "",22⟩,⟨ "Kind_",494,6,false, "", "",23⟩,⟨ "Equal",495,7,false, "", "",24⟩,⟨ "GCData",473,8,false, "", "",32⟩,⟨ "Str",496,9,false, "", "",40⟩,⟨ "PtrToThis",497,10,false, "", "",44⟩],11,48,.agg [.int .u64 0,.int .u64 0,.int .u32 0,.int .u8 0,.int .u8 0,.int .u8 0,.int .u8 0,.nilFn,.nilP,.int .i32 0,.int .i32 0],.agg #[.int .u64 0,.int .u64 0,.int .u32 0,.int .u8 0,.int .u8 0,.int .u8 0,.int .u8 0,.nilFunc,.pointer none,.int .i32 0,.int .i32 0],none,false,false⟩:=by kernel_rfl
theorem tok:TOk Tryz.prog T:=mk_ok
end
end Go.Proofs.YtdnhplencamncaaGreatDoor
