/- JG7: own texts of this seat, joined and shortened by pack4.py: Ty. -/
import Derived.Test.YtdhgchekdkjcpaaGreatDoorJG5
import Derived.Test.YtdhgchekdkjcpaaGreatDoorProg
import Derived.KernelRfl
set_option linter.unusedVariables false
set_option linter.unusedSimpArgs false
set_option maxRecDepth 100000
set_option maxHeartbeats 64000000
open ByteArray renaming empty→aX
namespace Go.Proofs.YtdhgchekdkjcpaaGreatDoor
section
open Go Go.AM
noncomputable def T:Ty:=mkTI Tryz.prog
@[simp] theorem T_1:T 1=some ⟨.func #[] #[] false,1,8,.nilFn,.nilFunc,none,false,false⟩:=by kernel_rfl
@[simp] theorem T_2:T 2=some ⟨.int .i64,1,8,.int .i64 0,.int .i64 0,some (.int .i64),false,false⟩:=by kernel_rfl
@[simp] theorem T_3:T 3=some ⟨.int .i64,1,8,.int .i64 0,.int .i64 0,some (.int .i64),false,false⟩:=by kernel_rfl
@[simp] theorem T_4:T 4=some ⟨.bool,1,1,.bool false,.bool false,some .bool,false,false⟩:=by kernel_rfl
@[simp] theorem T_5:T 5=some ⟨.int .u8,1,1,.int .u8 0,.int .u8 0,some (.int .u8),false,false⟩:=by kernel_rfl
@[simp] theorem T_6:T 6=some ⟨.int .u8,1,1,.int .u8 0,.int .u8 0,some (.int .u8),false,false⟩:=by kernel_rfl
@[simp] theorem T_7:T 7=some ⟨.struct #[⟨ "x",2,0,false, "", "runtime",0⟩,⟨ "y",3,1,false, "", "runtime",8⟩,⟨ "signed",4,2,false, "", "runtime",16⟩,⟨ "code",6,3,false, "", "runtime",17⟩],4,24,.agg [.int .i64 0,.int .i64 0,.bool false,.int .u8 0],.agg #[.int .i64 0,.int .i64 0,.bool false,.int .u8 0],none,true,false⟩:=by kernel_rfl
@[simp] theorem T_8:T 8=some ⟨.struct #[⟨ "x",2,0,false, "", "runtime",0⟩,⟨ "y",3,1,false, "", "runtime",8⟩,⟨ "signed",4,2,false, "", "runtime",16⟩,⟨ "code",6,3,false, "", "runtime",17⟩],4,24,.agg [.int .i64 0,.int .i64 0,.bool false,.int .u8 0],.agg #[.int .i64 0,.int .i64 0,.bool false,.int .u8 0],none,true,false⟩:=by kernel_rfl
@[simp] theorem T_9:T 9=some ⟨.string,1,16,.str aX,.string aX,some .str,false,false⟩:=by kernel_rfl
@[simp] theorem T_10:T 10=some ⟨.string,1,16,.str aX,.string aX,some .str,false,false⟩:=by kernel_rfl
@[simp] theorem T_11:T 11=some ⟨.string,1,16,.str aX,.string aX,some .str,false,false⟩:=by kernel_rfl
@[simp] theorem T_12:T 12=some ⟨.int .u64,1,8,.int .u64 0,.int .u64 0,some (.int .u64),false,false⟩:=by kernel_rfl
@[simp] theorem T_13:T 13=some ⟨.struct #[⟨ "msg",9,0,false, "", "runtime",0⟩,⟨ "addr",12,1,false, "", "runtime",16⟩],2,24,.agg [.str aX,.int .u64 0],.agg #[.string aX,.int .u64 0],none,false,false⟩:=by kernel_rfl
@[simp] theorem T_14:T 14=some ⟨.struct #[⟨ "msg",9,0,false, "", "runtime",0⟩,⟨ "addr",12,1,false, "", "runtime",16⟩],2,24,.agg [.str aX,.int .u64 0],.agg #[.string aX,.int .u64 0],none,false,false⟩:=by kernel_rfl
@[simp] theorem T_15:T 15=some ⟨.pointer 422,1,8,.nilP,.pointer none,none,false,false⟩:=by kernel_rfl
@[simp] theorem T_16:T 16=some ⟨.pointer 425,1,8,.nilP,.pointer none,none,false,false⟩:=by kernel_rfl
@[simp] theorem T_17:T 17=some ⟨.pointer 433,1,8,.nilP,.pointer none,none,false,false⟩:=by kernel_rfl
@[simp] theorem T_18:T 18=some ⟨.struct #[⟨ "typ",17,0,false, "", "internal/runtime/maps",0⟩],1,8,.agg [.nilP],.agg #[.pointer none],none,false,false⟩:=by kernel_rfl
@[simp] theorem T_19:T 19=some ⟨.struct #[⟨ "typ",17,0,false, "", "internal/runtime/maps",0⟩],1,8,.agg [.nilP],.agg #[.pointer none],none,false,false⟩:=by kernel_rfl
@[simp] theorem T_20:T 20=some ⟨.interface #[],1,16,.nilI,.nilIface,none,false,false⟩:=by kernel_rfl
@[simp] theorem T_21:T 21=some ⟨.int .i32,1,4,.int .i32 0,.int .i32 0,some (.int .i32),false,false⟩:=by kernel_rfl
@[simp] theorem T_22:T 22=some ⟨.func #[] #[4] false,1,8,.nilFn,.nilFunc,none,false,false⟩:=by kernel_rfl
@[simp] theorem T_23:T 23=some ⟨.slice 2,1,24,.nilS,.slice none 0 0,none,false,false⟩:=by kernel_rfl
@[simp] theorem T_24:T 24=some ⟨.slice 108,1,24,.nilS,.slice none 0 0,none,false,false⟩:=by kernel_rfl
@[simp] theorem T_25:T 25=some ⟨.struct #[⟨ "Deleted",23,0,false, "", "",0⟩,⟨ "Weight",2,1,false, "", "",24⟩,⟨ "Proof",24,2,false, "", "",32⟩],3,56,.agg [.nilS,.int .i64 0,.nilS],.agg #[.slice none 0 0,.int .i64 0,.slice none 0 0],none,true,false⟩:=by kernel_rfl
@[simp] theorem T_26:T 26=some ⟨.struct #[⟨ "Deleted",23,0,false, "", "",0⟩,⟨ "Weight",2,1,false, "", "",24⟩,⟨ "Proof",24,2,false, "", "",32⟩],3,56,.agg [.nilS,.int .i64 0,.nilS],.agg #[.slice none 0 0,.int .i64 0,.slice none 0 0],none,true,false⟩:=by kernel_rfl
@[simp] theorem T_27:T 27=some ⟨.slice 133,1,24,.nilS,.slice none 0 0,none,false,false⟩:=by kernel_rfl
@[simp] theorem T_28:T 28=some ⟨.slice 9,1,24,.nilS,.slice none 0 0,none,false,false⟩:=by kernel_rfl
@[simp] theorem T_29:T 29=some ⟨.slice 105,1,24,.nilS,.slice none 0 0,none,false,false⟩:=by kernel_rfl
@[simp] theorem T_30:T 30=some ⟨.struct #[⟨ "Name",9,0,false, "", "",0⟩,⟨ "Attrs",28,1,false, "", "",16⟩,⟨ "Rows",29,2,false, "", "",40⟩],3,64,.agg [.str aX,.nilS,.nilS],.agg #[.string aX,.slice none 0 0,.slice none 0 0],none,true,false⟩:=by kernel_rfl
@[simp] theorem T_31:T 31=some ⟨.struct #[⟨ "Name",9,0,false, "", "",0⟩,⟨ "Attrs",28,1,false, "", "",16⟩,⟨ "Rows",29,2,false, "", "",40⟩],3,64,.agg [.str aX,.nilS,.nilS],.agg #[.string aX,.slice none 0 0,.slice none 0 0],none,true,false⟩:=by kernel_rfl
@[simp] theorem T_32:T 32=some ⟨.slice 27,1,24,.nilS,.slice none 0 0,none,false,false⟩:=by kernel_rfl
@[simp] theorem T_33:T 33=some ⟨.struct #[⟨ "Cells",27,0,false, "", "",0⟩,⟨ "Table",31,1,false, "", "",24⟩,⟨ "Cores",32,4,false, "", "",88⟩,⟨ "Proof",24,5,false, "", "",112⟩],6,136,.agg [.nilS,.str aX,.nilS,.nilS,.nilS,.nilS],.agg #[.slice none 0 0,.string aX,.slice none 0 0,.slice none 0 0,.slice none 0 0,.slice none 0 0],none,true,false⟩:=by kernel_rfl
@[simp] theorem T_34:T 34=some ⟨.struct #[⟨ "Cells",27,0,false, "", "",0⟩,⟨ "Table",31,1,false, "", "",24⟩,⟨ "Cores",32,4,false, "", "",88⟩,⟨ "Proof",24,5,false, "", "",112⟩],6,136,.agg [.nilS,.str aX,.nilS,.nilS,.nilS,.nilS],.agg #[.slice none 0 0,.string aX,.slice none 0 0,.slice none 0 0,.slice none 0 0,.slice none 0 0],none,true,false⟩:=by kernel_rfl
@[simp] theorem T_35:T 35=some ⟨.slice 39,1,24,.nilS,.slice none 0 0,none,false,false⟩:=by kernel_rfl
@[simp] theorem T_36:T 36=some ⟨.slice 135,1,24,.nilS,.slice none 0 0,none,false,false⟩:=by kernel_rfl
@[simp] theorem T_37:T 37=some ⟨.slice 110,1,24,.nilS,.slice none 0 0,none,false,false⟩:=by kernel_rfl
@[simp] theorem T_38:T 38=some ⟨.int .u32,1,4,.int .u32 0,.int .u32 0,some (.int .u32),false,false⟩:=by kernel_rfl
@[simp] theorem T_39:T 39=some ⟨.int .u32,1,4,.int .u32 0,.int .u32 0,some (.int .u32),false,false⟩:=by kernel_rfl
@[simp] theorem T_40:T 40=some ⟨.struct #[⟨ "Lhs",39,0,false, "", "",0⟩,⟨ "Rhs",39,1,false, "", "",4⟩],2,8,.agg [.int .u32 0,.int .u32 0],.agg #[.int .u32 0,.int .u32 0],none,true,false⟩:=by kernel_rfl
@[simp] theorem T_41:T 41=some ⟨.struct #[⟨ "Lhs",39,0,false, "", "",0⟩,⟨ "Rhs",39,1,false, "", "",4⟩],2,8,.agg [.int .u32 0,.int .u32 0],.agg #[.int .u32 0,.int .u32 0],none,true,false⟩:=by kernel_rfl
@[simp] theorem T_42:T 42=some ⟨.struct #[⟨ "Kind",3,0,false, "", "",0⟩,⟨ "Repair",26,1,false, "", "",8⟩,⟨ "Update",34,4,false, "", "",64⟩,⟨ "Sets",35,10,false, "", "",200⟩,⟨ "Pairs",36,11,false, "", "",224⟩,⟨ "Steps",37,12,false, "", "",248⟩,⟨ "Goal",41,13,false, "", "",272⟩],15,280,.agg [.int .i64 0,.nilS,.int .i64 0,.nilS,.nilS,.str aX,.nilS,.nilS,.nilS,.nilS,.nilS,.nilS,.nilS,.int .u32 0,.int .u32 0],.agg #[.int .i64 0,.slice none 0 0,.int .i64 0,.slice none 0 0,.slice none 0 0,.string aX,.slice none 0 0,.slice none 0 0,.slice none 0 0,.slice none 0 0,.slice none 0 0,.slice none 0 0,.slice none 0 0,.int .u32 0,.int .u32 0],none,true,false⟩:=by kernel_rfl
@[simp] theorem T_43:T 43=some ⟨.struct #[⟨ "Kind",3,0,false, "", "",0⟩,⟨ "Repair",26,1,false, "", "",8⟩,⟨ "Update",34,4,false, "", "",64⟩,⟨ "Sets",35,10,false, "", "",200⟩,⟨ "Pairs",36,11,false, "", "",224⟩,⟨ "Steps",37,12,false, "", "",248⟩,⟨ "Goal",41,13,false, "", "",272⟩],15,280,.agg [.int .i64 0,.nilS,.int .i64 0,.nilS,.nilS,.str aX,.nilS,.nilS,.nilS,.nilS,.nilS,.nilS,.nilS,.int .u32 0,.int .u32 0],.agg #[.int .i64 0,.slice none 0 0,.int .i64 0,.slice none 0 0,.slice none 0 0,.string aX,.slice none 0 0,.slice none 0 0,.slice none 0 0,.slice none 0 0,.slice none 0 0,.slice none 0 0,.slice none 0 0,.int .u32 0,.int .u32 0],none,true,false⟩:=by kernel_rfl
@[simp] theorem T_44:T 44=some ⟨.int .i64,1,8,.int .i64 0,.int .i64 0,some (.int .i64),false,false⟩:=by kernel_rfl
@[simp] theorem T_46:T 46=some ⟨.func #[9] #[43,3,44] false,1,8,.nilFn,.nilFunc,none,false,false⟩:=by kernel_rfl
@[simp] theorem T_47:T 47=some ⟨.func #[43,43] #[4] false,1,8,.nilFn,.nilFunc,none,false,false⟩:=by kernel_rfl
@[simp] theorem T_48:T 48=some ⟨.func #[31,31] #[4] false,1,8,.nilFn,.nilFunc,none,false,false⟩:=by kernel_rfl
@[simp] theorem T_49:T 49=some ⟨.func #[9] #[4] false,1,8,.nilFn,.nilFunc,none,false,false⟩:=by kernel_rfl
@[simp] theorem T_50:T 50=some ⟨.func #[43] #[4] false,1,8,.nilFn,.nilFunc,none,false,false⟩:=by kernel_rfl
@[simp] theorem T_52:T 52=some ⟨.func #[43] #[9,44] false,1,8,.nilFn,.nilFunc,none,false,false⟩:=by kernel_rfl
@[simp] theorem T_53:T 53=some ⟨.func #[43] #[43] false,1,8,.nilFn,.nilFunc,none,false,false⟩:=by kernel_rfl
@[simp] theorem T_54:T 54=some ⟨.func #[43,9] #[4] false,1,8,.nilFn,.nilFunc,none,false,false⟩:=by kernel_rfl
@[simp] theorem T_55:T 55=some ⟨.func #[43] #[3] false,1,8,.nilFn,.nilFunc,none,false,false⟩:=by kernel_rfl
@[simp] theorem T_56:T 56=some ⟨.func #[60,3] #[31] false,1,8,.nilFn,.nilFunc,none,false,false⟩:=by kernel_rfl
@[simp] theorem T_57:T 57=some ⟨.slice 5,1,24,.nilS,.slice none 0 0,none,false,false⟩:=by kernel_rfl
@[simp] theorem T_58:T 58=some ⟨.slice 57,1,24,.nilS,.slice none 0 0,none,false,false⟩:=by kernel_rfl
@[simp] theorem T_59:T 59=some ⟨.struct #[⟨ "Attrs",5,0,false, "", "",0⟩,⟨ "Gap",5,1,false, "", "",1⟩,⟨ "Rows",58,2,false, "", "",8⟩],3,32,.agg [.int .u8 0,.int .u8 0,.nilS],.agg #[.int .u8 0,.int .u8 0,.slice none 0 0],none,true,false⟩:=by kernel_rfl
@[simp] theorem T_60:T 60=some ⟨.struct #[⟨ "Attrs",5,0,false, "", "",0⟩,⟨ "Gap",5,1,false, "", "",1⟩,⟨ "Rows",58,2,false, "", "",8⟩],3,32,.agg [.int .u8 0,.int .u8 0,.nilS],.agg #[.int .u8 0,.int .u8 0,.slice none 0 0],none,true,false⟩:=by kernel_rfl
@[simp] theorem T_61:T 61=some ⟨.struct #[⟨ "Lhs",39,0,false, "", "",0⟩,⟨ "Rhs",39,1,false, "", "",4⟩],2,8,.agg [.int .u32 0,.int .u32 0],.agg #[.int .u32 0,.int .u32 0],none,true,false⟩:=by kernel_rfl
@[simp] theorem T_62:T 62=some ⟨.slice 3,1,24,.nilS,.slice none 0 0,none,false,false⟩:=by kernel_rfl
@[simp] theorem T_63:T 63=some ⟨.struct #[⟨ "From",9,0,false, "", "",0⟩,⟨ "Lhs",62,1,false, "", "",16⟩,⟨ "To",9,2,false, "", "",40⟩,⟨ "Rhs",62,3,false, "", "",56⟩],4,80,.agg [.str aX,.nilS,.str aX,.nilS],.agg #[.string aX,.slice none 0 0,.string aX,.slice none 0 0],none,true,false⟩:=by kernel_rfl
@[simp] theorem T_64:T 64=some ⟨.struct #[⟨ "From",9,0,false, "", "",0⟩,⟨ "Lhs",62,1,false, "", "",16⟩,⟨ "To",9,2,false, "", "",40⟩,⟨ "Rhs",62,3,false, "", "",56⟩],4,80,.agg [.str aX,.nilS,.str aX,.nilS],.agg #[.string aX,.slice none 0 0,.string aX,.slice none 0 0],none,true,false⟩:=by kernel_rfl
@[simp] theorem T_65:T 65=some ⟨.slice 369,1,24,.nilS,.slice none 0 0,none,false,false⟩:=by kernel_rfl
@[simp] theorem T_66:T 66=some ⟨.struct #[⟨ "Lhs",62,0,false, "", "",0⟩,⟨ "Rhs",3,1,false, "", "",24⟩,⟨ "Pattern",65,2,false, "", "",32⟩],3,56,.agg [.nilS,.int .i64 0,.nilS],.agg #[.slice none 0 0,.int .i64 0,.slice none 0 0],none,true,false⟩:=by kernel_rfl
@[simp] theorem T_67:T 67=some ⟨.struct #[⟨ "Lhs",62,0,false, "", "",0⟩,⟨ "Rhs",3,1,false, "", "",24⟩,⟨ "Pattern",65,2,false, "", "",32⟩],3,56,.agg [.nilS,.int .i64 0,.nilS],.agg #[.slice none 0 0,.int .i64 0,.slice none 0 0],none,true,false⟩:=by kernel_rfl
@[simp] theorem T_68:T 68=some ⟨.struct #[⟨ "Lhs",62,0,false, "", "",0⟩,⟨ "Rhs",62,1,false, "", "",24⟩],2,48,.agg [.nilS,.nilS],.agg #[.slice none 0 0,.slice none 0 0],none,true,false⟩:=by kernel_rfl
@[simp] theorem T_69:T 69=some ⟨.struct #[⟨ "Lhs",62,0,false, "", "",0⟩,⟨ "Rhs",62,1,false, "", "",24⟩],2,48,.agg [.nilS,.nilS],.agg #[.slice none 0 0,.slice none 0 0],none,true,false⟩:=by kernel_rfl
@[simp] theorem T_70:T 70=some ⟨.slice 362,1,24,.nilS,.slice none 0 0,none,false,false⟩:=by kernel_rfl
@[simp] theorem T_71:T 71=some ⟨.struct #[⟨ "Vars",3,0,false, "", "",0⟩,⟨ "Atoms",70,1,false, "", "",8⟩],2,32,.agg [.int .i64 0,.nilS],.agg #[.int .i64 0,.slice none 0 0],none,true,false⟩:=by kernel_rfl
@[simp] theorem T_72:T 72=some ⟨.struct #[⟨ "Vars",3,0,false, "", "",0⟩,⟨ "Atoms",70,1,false, "", "",8⟩],2,32,.agg [.int .i64 0,.nilS],.agg #[.int .i64 0,.slice none 0 0],none,true,false⟩:=by kernel_rfl
@[simp] theorem T_73:T 73=some ⟨.struct #[⟨ "Name",9,0,false, "", "",0⟩,⟨ "Table",9,1,false, "", "",16⟩,⟨ "Kind",3,2,false, "", "",32⟩,⟨ "FD",41,3,false, "", "",40⟩,⟨ "MVD",61,5,false, "", "",48⟩,⟨ "IND",64,7,false, "", "",56⟩,⟨ "CFD",67,11,false, "", "",136⟩,⟨ "OD",69,14,false, "", "",192⟩,⟨ "Denial",72,16,false, "", "",240⟩],18,272,.agg [.str aX,.str aX,.int .i64 0,.int .u32 0,.int .u32 0,.int .u32 0,.int .u32 0,.str aX,.nilS,.str aX,.nilS,.nilS,.int .i64 0,.nilS,.nilS,.nilS,.int .i64 0,.nilS],.agg #[.string aX,.string aX,.int .i64 0,.int .u32 0,.int .u32 0,.int .u32 0,.int .u32 0,.string aX,.slice none 0 0,.string aX,.slice none 0 0,.slice none 0 0,.int .i64 0,.slice none 0 0,.slice none 0 0,.slice none 0 0,.int .i64 0,.slice none 0 0],none,true,false⟩:=by kernel_rfl
@[simp] theorem T_74:T 74=some ⟨.struct #[⟨ "Name",9,0,false, "", "",0⟩,⟨ "Table",9,1,false, "", "",16⟩,⟨ "Kind",3,2,false, "", "",32⟩,⟨ "FD",41,3,false, "", "",40⟩,⟨ "MVD",61,5,false, "", "",48⟩,⟨ "IND",64,7,false, "", "",56⟩,⟨ "CFD",67,11,false, "", "",136⟩,⟨ "OD",69,14,false, "", "",192⟩,⟨ "Denial",72,16,false, "", "",240⟩],18,272,.agg [.str aX,.str aX,.int .i64 0,.int .u32 0,.int .u32 0,.int .u32 0,.int .u32 0,.str aX,.nilS,.str aX,.nilS,.nilS,.int .i64 0,.nilS,.nilS,.nilS,.int .i64 0,.nilS],.agg #[.string aX,.string aX,.int .i64 0,.int .u32 0,.int .u32 0,.int .u32 0,.int .u32 0,.string aX,.slice none 0 0,.string aX,.slice none 0 0,.slice none 0 0,.int .i64 0,.slice none 0 0,.slice none 0 0,.slice none 0 0,.int .i64 0,.slice none 0 0],none,true,false⟩:=by kernel_rfl
@[simp] theorem T_75:T 75=some ⟨.slice 74,1,24,.nilS,.slice none 0 0,none,false,false⟩:=by kernel_rfl
@[simp] theorem T_77:T 77=some ⟨.func #[31,75,23,9] #[4,44] false,1,8,.nilFn,.nilFunc,none,false,false⟩:=by kernel_rfl
@[simp] theorem T_78:T 78=some ⟨.func #[9,9] #[28] false,1,8,.nilFn,.nilFunc,none,false,false⟩:=by kernel_rfl
@[simp] theorem T_79:T 79=some ⟨.pointer 81,1,8,.nilP,.pointer none,none,false,false⟩:=by kernel_rfl
@[simp] theorem T_80:T 80=some ⟨.struct #[⟨ "c",43,0,false, "", "dross/certificate",0⟩,⟨ "stage",3,15,false, "", "dross/certificate",280⟩,⟨ "done",4,16,false, "", "dross/certificate",288⟩],17,296,.agg [.int .i64 0,.nilS,.int .i64 0,.nilS,.nilS,.str aX,.nilS,.nilS,.nilS,.nilS,.nilS,.nilS,.nilS,.int .u32 0,.int .u32 0,.int .i64 0,.bool false],.agg #[.int .i64 0,.slice none 0 0,.int .i64 0,.slice none 0 0,.slice none 0 0,.string aX,.slice none 0 0,.slice none 0 0,.slice none 0 0,.slice none 0 0,.slice none 0 0,.slice none 0 0,.slice none 0 0,.int .u32 0,.int .u32 0,.int .i64 0,.bool false],none,true,false⟩:=by kernel_rfl
@[simp] theorem T_81:T 81=some ⟨.struct #[⟨ "c",43,0,false, "", "dross/certificate",0⟩,⟨ "stage",3,15,false, "", "dross/certificate",280⟩,⟨ "done",4,16,false, "", "dross/certificate",288⟩],17,296,.agg [.int .i64 0,.nilS,.int .i64 0,.nilS,.nilS,.str aX,.nilS,.nilS,.nilS,.nilS,.nilS,.nilS,.nilS,.int .u32 0,.int .u32 0,.int .i64 0,.bool false],.agg #[.int .i64 0,.slice none 0 0,.int .i64 0,.slice none 0 0,.slice none 0 0,.string aX,.slice none 0 0,.slice none 0 0,.slice none 0 0,.slice none 0 0,.slice none 0 0,.slice none 0 0,.slice none 0 0,.int .u32 0,.int .u32 0,.int .i64 0,.bool false],none,true,false⟩:=by kernel_rfl
@[simp] theorem T_82:T 82=some ⟨.struct #[⟨ "word",9,0,false, "", "dross/certificate",0⟩,⟨ "numbers",23,1,false, "", "dross/certificate",16⟩],2,40,.agg [.str aX,.nilS],.agg #[.string aX,.slice none 0 0],none,true,false⟩:=by kernel_rfl
@[simp] theorem T_83:T 83=some ⟨.struct #[⟨ "word",9,0,false, "", "dross/certificate",0⟩,⟨ "numbers",23,1,false, "", "dross/certificate",16⟩],2,40,.agg [.str aX,.nilS],.agg #[.string aX,.slice none 0 0],none,true,false⟩:=by kernel_rfl
@[simp] theorem T_85:T 85=some ⟨.func #[9] #[83,4] false,1,8,.nilFn,.nilFunc,none,false,false⟩:=by kernel_rfl
@[simp] theorem T_86:T 86=some ⟨.func #[83] #[4] false,1,8,.nilFn,.nilFunc,none,false,false⟩:=by kernel_rfl
@[simp] theorem T_87:T 87=some ⟨.func #[9] #[28] false,1,8,.nilFn,.nilFunc,none,false,false⟩:=by kernel_rfl
@[simp] theorem T_89:T 89=some ⟨.func #[9] #[9,23,4] false,1,8,.nilFn,.nilFunc,none,false,false⟩:=by kernel_rfl
@[simp] theorem T_91:T 91=some ⟨.func #[9,23] #[43,4] false,1,8,.nilFn,.nilFunc,none,false,false⟩:=by kernel_rfl
@[simp] theorem T_93:T 93=some ⟨.func #[94,3,9,23] #[3,4] false,1,8,.nilFn,.nilFunc,none,false,false⟩:=by kernel_rfl
@[simp] theorem T_94:T 94=some ⟨.pointer 43,1,8,.nilP,.pointer none,none,false,false⟩:=by kernel_rfl
@[simp] theorem T_95:T 95=some ⟨.func #[23,23] #[4] false,1,8,.nilFn,.nilFunc,none,false,false⟩:=by kernel_rfl
@[simp] theorem T_96:T 96=some ⟨.func #[24,24] #[4] false,1,8,.nilFn,.nilFunc,none,false,false⟩:=by kernel_rfl
@[simp] theorem T_97:T 97=some ⟨.func #[27,27] #[4] false,1,8,.nilFn,.nilFunc,none,false,false⟩:=by kernel_rfl
@[simp] theorem T_98:T 98=some ⟨.func #[35,35] #[4] false,1,8,.nilFn,.nilFunc,none,false,false⟩:=by kernel_rfl
@[simp] theorem T_99:T 99=some ⟨.func #[36,36] #[4] false,1,8,.nilFn,.nilFunc,none,false,false⟩:=by kernel_rfl
@[simp] theorem T_100:T 100=some ⟨.func #[37,37] #[4] false,1,8,.nilFn,.nilFunc,none,false,false⟩:=by kernel_rfl
@[simp] theorem T_101:T 101=some ⟨.func #[28,28] #[4] false,1,8,.nilFn,.nilFunc,none,false,false⟩:=by kernel_rfl
@[simp] theorem T_102:T 102=some ⟨.func #[105,105] #[4] false,1,8,.nilFn,.nilFunc,none,false,false⟩:=by kernel_rfl
@[simp] theorem T_103:T 103=some ⟨.slice 119,1,24,.nilS,.slice none 0 0,none,false,false⟩:=by kernel_rfl
@[simp] theorem T_104:T 104=some ⟨.struct #[⟨ "ID",2,0,false, "", "",0⟩,⟨ "Values",103,1,false, "", "",8⟩],2,32,.agg [.int .i64 0,.nilS],.agg #[.int .i64 0,.slice none 0 0],none,true,false⟩:=by kernel_rfl
@[simp] theorem T_105:T 105=some ⟨.struct #[⟨ "ID",2,0,false, "", "",0⟩,⟨ "Values",103,1,false, "", "",8⟩],2,32,.agg [.int .i64 0,.nilS],.agg #[.int .i64 0,.slice none 0 0],none,true,false⟩:=by kernel_rfl
@[simp] theorem T_106:T 106=some ⟨.slice 139,1,24,.nilS,.slice none 0 0,none,false,false⟩:=by kernel_rfl
@[simp] theorem T_107:T 107=some ⟨.struct #[⟨ "Vertex",3,0,false, "", "",0⟩,⟨ "Shares",106,1,false, "", "",8⟩],2,32,.agg [.int .i64 0,.nilS],.agg #[.int .i64 0,.slice none 0 0],none,true,false⟩:=by kernel_rfl
@[simp] theorem T_108:T 108=some ⟨.struct #[⟨ "Vertex",3,0,false, "", "",0⟩,⟨ "Shares",106,1,false, "", "",8⟩],2,32,.agg [.int .i64 0,.nilS],.agg #[.int .i64 0,.slice none 0 0],none,true,false⟩:=by kernel_rfl
@[simp] theorem T_109:T 109=some ⟨.struct #[⟨ "Rule",3,0,false, "", "",0⟩,⟨ "From",62,1,false, "", "",8⟩,⟨ "FD",41,2,false, "", "",32⟩],4,40,.agg [.int .i64 0,.nilS,.int .u32 0,.int .u32 0],.agg #[.int .i64 0,.slice none 0 0,.int .u32 0,.int .u32 0],none,true,false⟩:=by kernel_rfl
@[simp] theorem T_110:T 110=some ⟨.struct #[⟨ "Rule",3,0,false, "", "",0⟩,⟨ "From",62,1,false, "", "",8⟩,⟨ "FD",41,2,false, "", "",32⟩],4,40,.agg [.int .i64 0,.nilS,.int .u32 0,.int .u32 0],.agg #[.int .i64 0,.slice none 0 0,.int .u32 0,.int .u32 0],none,true,false⟩:=by kernel_rfl
@[simp] theorem T_111:T 111=some ⟨.pointer 113,1,8,.nilP,.pointer none,none,false,false⟩:=by kernel_rfl
@[simp] theorem T_112:T 112=some ⟨.struct #[⟨ "lines",28,0,false, "", "dross/certificate",0⟩],1,24,.agg [.nilS],.agg #[.slice none 0 0],none,true,false⟩:=by kernel_rfl
@[simp] theorem T_113:T 113=some ⟨.struct #[⟨ "lines",28,0,false, "", "dross/certificate",0⟩],1,24,.agg [.nilS],.agg #[.slice none 0 0],none,true,false⟩:=by kernel_rfl
@[simp] theorem T_114:T 114=some ⟨.func #[28,9] #[9] false,1,8,.nilFn,.nilFunc,none,false,false⟩:=by kernel_rfl
@[simp] theorem T_116:T 116=some ⟨.func #[43] #[9,4] false,1,8,.nilFn,.nilFunc,none,false,false⟩:=by kernel_rfl
@[simp] theorem T_117:T 117=some ⟨.func #[9,9] #[3] false,1,8,.nilFn,.nilFunc,none,false,false⟩:=by kernel_rfl
@[simp] theorem T_118:T 118=some ⟨.struct #[⟨ "Kind",3,0,false, "", "",0⟩,⟨ "Num",2,1,false, "", "",8⟩,⟨ "Str",9,2,false, "", "",16⟩],3,32,.agg [.int .i64 0,.int .i64 0,.str aX],.agg #[.int .i64 0,.int .i64 0,.string aX],none,true,false⟩:=by kernel_rfl
@[simp] theorem T_119:T 119=some ⟨.struct #[⟨ "Kind",3,0,false, "", "",0⟩,⟨ "Num",2,1,false, "", "",8⟩,⟨ "Str",9,2,false, "", "",16⟩],3,32,.agg [.int .i64 0,.int .i64 0,.str aX],.agg #[.int .i64 0,.int .i64 0,.string aX],none,true,false⟩:=by kernel_rfl
@[simp] theorem T_120:T 120=some ⟨.func #[5] #[119] false,1,8,.nilFn,.nilFunc,none,false,false⟩:=by kernel_rfl
@[simp] theorem T_121:T 121=some ⟨.func #[31,75,23,43] #[4] false,1,8,.nilFn,.nilFunc,none,false,false⟩:=by kernel_rfl
@[simp] theorem T_122:T 122=some ⟨.func #[9,9,3,3] #[28] false,1,8,.nilFn,.nilFunc,none,false,false⟩:=by kernel_rfl
@[simp] theorem T_123:T 123=some ⟨.interface #[("Error",151)],1,16,.nilI,.nilIface,none,false,false⟩:=by kernel_rfl
@[simp] theorem T_124:T 124=some ⟨.interface #[("Error",151)],1,16,.nilI,.nilIface,none,false,false⟩:=by kernel_rfl
@[simp] theorem T_126:T 126=some ⟨.func #[9,3,3] #[2,124] false,1,8,.nilFn,.nilFunc,none,false,false⟩:=by kernel_rfl
@[simp] theorem T_127:T 127=some ⟨.func #[2,3] #[9] false,1,8,.nilFn,.nilFunc,none,false,false⟩:=by kernel_rfl
@[simp] theorem T_128:T 128=some ⟨.func #[3] #[4] false,1,8,.nilFn,.nilFunc,none,false,false⟩:=by kernel_rfl
@[simp] theorem T_130:T 130=some ⟨.func #[9] #[2,4] false,1,8,.nilFn,.nilFunc,none,false,false⟩:=by kernel_rfl
@[simp] theorem T_131:T 131=some ⟨.func #[2] #[4] false,1,8,.nilFn,.nilFunc,none,false,false⟩:=by kernel_rfl
@[simp] theorem T_132:T 132=some ⟨.struct #[⟨ "ID",2,0,false, "", "",0⟩,⟨ "Attr",3,1,false, "", "",8⟩],2,16,.agg [.int .i64 0,.int .i64 0],.agg #[.int .i64 0,.int .i64 0],none,true,false⟩:=by kernel_rfl
@[simp] theorem T_133:T 133=some ⟨.struct #[⟨ "ID",2,0,false, "", "",0⟩,⟨ "Attr",3,1,false, "", "",8⟩],2,16,.agg [.int .i64 0,.int .i64 0],.agg #[.int .i64 0,.int .i64 0],none,true,false⟩:=by kernel_rfl
@[simp] theorem T_134:T 134=some ⟨.struct #[⟨ "Set",39,0,false, "", "",0⟩,⟨ "A",2,1,false, "", "",8⟩,⟨ "B",2,2,false, "", "",16⟩],3,24,.agg [.int .u32 0,.int .i64 0,.int .i64 0],.agg #[.int .u32 0,.int .i64 0,.int .i64 0],none,true,false⟩:=by kernel_rfl
@[simp] theorem T_135:T 135=some ⟨.struct #[⟨ "Set",39,0,false, "", "",0⟩,⟨ "A",2,1,false, "", "",8⟩,⟨ "B",2,2,false, "", "",16⟩],3,24,.agg [.int .u32 0,.int .i64 0,.int .i64 0],.agg #[.int .u32 0,.int .i64 0,.int .i64 0],none,true,false⟩:=by kernel_rfl
@[simp] theorem T_137:T 137=some ⟨.func #[9,23] #[108,4] false,1,8,.nilFn,.nilFunc,none,false,false⟩:=by kernel_rfl
@[simp] theorem T_138:T 138=some ⟨.struct #[⟨ "Edge",3,0,false, "", "",0⟩,⟨ "Amount",2,1,false, "", "",8⟩],2,16,.agg [.int .i64 0,.int .i64 0],.agg #[.int .i64 0,.int .i64 0],none,true,false⟩:=by kernel_rfl
@[simp] theorem T_139:T 139=some ⟨.struct #[⟨ "Edge",3,0,false, "", "",0⟩,⟨ "Amount",2,1,false, "", "",8⟩],2,16,.agg [.int .i64 0,.int .i64 0],.agg #[.int .i64 0,.int .i64 0],none,true,false⟩:=by kernel_rfl
@[simp] theorem T_140:T 140=some ⟨.func #[62,62] #[4] false,1,8,.nilFn,.nilFunc,none,false,false⟩:=by kernel_rfl
@[simp] theorem T_141:T 141=some ⟨.func #[103,103] #[4] false,1,8,.nilFn,.nilFunc,none,false,false⟩:=by kernel_rfl
@[simp] theorem T_142:T 142=some ⟨.func #[9,23] #[] true,1,8,.nilFn,.nilFunc,none,false,false⟩:=by kernel_rfl
@[simp] theorem T_143:T 143=some ⟨.func #[24] #[4] false,1,8,.nilFn,.nilFunc,none,false,false⟩:=by kernel_rfl
@[simp] theorem T_144:T 144=some ⟨.func #[27] #[23] true,1,8,.nilFn,.nilFunc,none,false,false⟩:=by kernel_rfl
@[simp] theorem T_145:T 145=some ⟨.pointer 147,1,8,.nilP,.pointer none,none,false,false⟩:=by kernel_rfl
@[simp] theorem T_146:T 146=some ⟨.struct #[⟨ "addr",145,0,false, "", "strings",0⟩,⟨ "buf",57,1,false, "", "strings",8⟩],2,32,.agg [.nilP,.nilS],.agg #[.pointer none,.slice none 0 0],none,true,false⟩:=by kernel_rfl
@[simp] theorem T_147:T 147=some ⟨.struct #[⟨ "addr",145,0,false, "", "strings",0⟩,⟨ "buf",57,1,false, "", "strings",8⟩],2,32,.agg [.nilP,.nilS],.agg #[.pointer none,.slice none 0 0],none,true,false⟩:=by kernel_rfl
@[simp] theorem T_148:T 148=some ⟨.func #[3] #[] false,1,8,.nilFn,.nilFunc,none,false,false⟩:=by kernel_rfl
@[simp] theorem T_150:T 150=some ⟨.func #[9] #[3,124] false,1,8,.nilFn,.nilFunc,none,false,false⟩:=by kernel_rfl
@[simp] theorem T_151:T 151=some ⟨.func #[] #[9] false,1,8,.nilFn,.nilFunc,none,false,false⟩:=by kernel_rfl
@[simp] theorem T_152:T 152=some ⟨.func #[9,23] #[9] true,1,8,.nilFn,.nilFunc,none,false,false⟩:=by kernel_rfl
@[simp] theorem T_153:T 153=some ⟨.func #[24] #[9,4] false,1,8,.nilFn,.nilFunc,none,false,false⟩:=by kernel_rfl
@[simp] theorem T_154:T 154=some ⟨.func #[9] #[3] false,1,8,.nilFn,.nilFunc,none,false,false⟩:=by kernel_rfl
@[simp] theorem T_155:T 155=some ⟨.func #[9,5] #[3] false,1,8,.nilFn,.nilFunc,none,false,false⟩:=by kernel_rfl
@[simp] theorem T_156:T 156=some ⟨.func #[31,75,23,26] #[4] false,1,8,.nilFn,.nilFunc,none,false,false⟩:=by kernel_rfl
@[simp] theorem T_157:T 157=some ⟨.func #[31,35,36] #[4] false,1,8,.nilFn,.nilFunc,none,false,false⟩:=by kernel_rfl
@[simp] theorem T_158:T 158=some ⟨.slice 41,1,24,.nilS,.slice none 0 0,none,false,false⟩:=by kernel_rfl
@[simp] theorem T_160:T 160=some ⟨.func #[31,75] #[158,4] false,1,8,.nilFn,.nilFunc,none,false,false⟩:=by kernel_rfl
@[simp] theorem T_161:T 161=some ⟨.func #[3,158,37,41] #[4] false,1,8,.nilFn,.nilFunc,none,false,false⟩:=by kernel_rfl
@[simp] theorem T_163:T 163=some ⟨.func #[31,158,27] #[31,44] false,1,8,.nilFn,.nilFunc,none,false,false⟩:=by kernel_rfl
@[simp] theorem T_164:T 164=some ⟨.func #[31,158,34] #[4] false,1,8,.nilFn,.nilFunc,none,false,false⟩:=by kernel_rfl
@[simp] theorem T_165:T 165=some ⟨.func #[9,3] #[28] false,1,8,.nilFn,.nilFunc,none,false,false⟩:=by kernel_rfl
@[simp] theorem T_166:T 166=some ⟨.func #[9,9,3,3,124] #[124] false,1,8,.nilFn,.nilFunc,none,false,false⟩:=by kernel_rfl
@[simp] theorem T_167:T 167=some ⟨.func #[3,3] #[4] false,1,8,.nilFn,.nilFunc,none,false,false⟩:=by kernel_rfl
@[simp] theorem T_168:T 168=some ⟨.func #[83,169] #[4] false,1,8,.nilFn,.nilFunc,none,false,false⟩:=by kernel_rfl
@[simp] theorem T_169:T 169=some ⟨.pointer 24,1,8,.nilP,.pointer none,none,false,false⟩:=by kernel_rfl
@[simp] theorem T_170:T 170=some ⟨.func #[3,4] #[4] false,1,8,.nilFn,.nilFunc,none,false,false⟩:=by kernel_rfl
@[simp] theorem T_171:T 171=some ⟨.pointer 34,1,8,.nilP,.pointer none,none,false,false⟩:=by kernel_rfl
@[simp] theorem T_172:T 172=some ⟨.func #[] #[27] false,1,8,.nilFn,.nilFunc,none,false,false⟩:=by kernel_rfl
@[simp] theorem T_173:T 173=some ⟨.func #[103,103] #[3] false,1,8,.nilFn,.nilFunc,none,false,false⟩:=by kernel_rfl
@[simp] theorem T_174:T 174=some ⟨.pointer 5,1,8,.nilP,.pointer none,none,false,false⟩:=by kernel_rfl
@[simp] theorem T_175:T 175=some ⟨.func #[2] #[9] false,1,8,.nilFn,.nilFunc,none,false,false⟩:=by kernel_rfl
@[simp] theorem T_176:T 176=some ⟨.slice 62,1,24,.nilS,.slice none 0 0,none,false,false⟩:=by kernel_rfl
@[simp] theorem T_177:T 177=some ⟨.struct #[⟨ "Weights",23,0,false, "", "",0⟩,⟨ "Edges",176,1,false, "", "",24⟩],2,48,.agg [.nilS,.nilS],.agg #[.slice none 0 0,.slice none 0 0],none,true,false⟩:=by kernel_rfl
@[simp] theorem T_178:T 178=some ⟨.struct #[⟨ "Weights",23,0,false, "", "",0⟩,⟨ "Edges",176,1,false, "", "",24⟩],2,48,.agg [.nilS,.nilS],.agg #[.slice none 0 0,.slice none 0 0],none,true,false⟩:=by kernel_rfl
@[simp] theorem T_180:T 180=some ⟨.func #[31,75,23] #[178,44] false,1,8,.nilFn,.nilFunc,none,false,false⟩:=by kernel_rfl
@[simp] theorem T_182:T 182=some ⟨.func #[31,23] #[62,44] false,1,8,.nilFn,.nilFunc,none,false,false⟩:=by kernel_rfl
@[simp] theorem T_183:T 183=some ⟨.func #[178,62] #[4] false,1,8,.nilFn,.nilFunc,none,false,false⟩:=by kernel_rfl
@[simp] theorem T_185:T 185=some ⟨.func #[178,62] #[2,44] false,1,8,.nilFn,.nilFunc,none,false,false⟩:=by kernel_rfl
@[simp] theorem T_186:T 186=some ⟨.func #[178,2,24] #[4] false,1,8,.nilFn,.nilFunc,none,false,false⟩:=by kernel_rfl
@[simp] theorem T_187:T 187=some ⟨.func #[31,39,4] #[44] false,1,8,.nilFn,.nilFunc,none,false,false⟩:=by kernel_rfl
@[simp] theorem T_188:T 188=some ⟨.func #[31,135] #[4] false,1,8,.nilFn,.nilFunc,none,false,false⟩:=by kernel_rfl
@[simp] theorem T_189:T 189=some ⟨.func #[31,39] #[4,44] false,1,8,.nilFn,.nilFunc,none,false,false⟩:=by kernel_rfl
@[simp] theorem T_190:T 190=some ⟨.func #[35] #[35] false,1,8,.nilFn,.nilFunc,none,false,false⟩:=by kernel_rfl
@[simp] theorem T_191:T 191=some ⟨.func #[3,35] #[35] false,1,8,.nilFn,.nilFunc,none,false,false⟩:=by kernel_rfl
@[simp] theorem T_192:T 192=some ⟨.func #[36] #[35] false,1,8,.nilFn,.nilFunc,none,false,false⟩:=by kernel_rfl
@[simp] theorem T_193:T 193=some ⟨.func #[31] #[44] false,1,8,.nilFn,.nilFunc,none,false,false⟩:=by kernel_rfl
@[simp] theorem T_195:T 195=some ⟨.func #[3,158,37] #[3,44] false,1,8,.nilFn,.nilFunc,none,false,false⟩:=by kernel_rfl
@[simp] theorem T_196:T 196=some ⟨.func #[31,158,27] #[44] false,1,8,.nilFn,.nilFunc,none,false,false⟩:=by kernel_rfl
@[simp] theorem T_197:T 197=some ⟨.pointer 206,1,8,.nilP,.pointer none,none,false,false⟩:=by kernel_rfl
@[simp] theorem T_198:T 198=some ⟨.func #[31,27] #[197] false,1,8,.nilFn,.nilFunc,none,false,false⟩:=by kernel_rfl
@[simp] theorem T_199:T 199=some ⟨.func #[3,158] #[4] false,1,8,.nilFn,.nilFunc,none,false,false⟩:=by kernel_rfl
@[simp] theorem T_200:T 200=some ⟨.map 2 4,1,8,.nilM,.map none,none,false,false⟩:=by kernel_rfl
@[simp] theorem T_201:T 201=some ⟨.func #[28] #[28] false,1,8,.nilFn,.nilFunc,none,false,false⟩:=by kernel_rfl
@[simp] theorem T_202:T 202=some ⟨.map 3 119,1,8,.nilM,.map none,none,false,false⟩:=by kernel_rfl
@[simp] theorem T_203:T 203=some ⟨.func #[3] #[3] false,1,8,.nilFn,.nilFunc,none,false,false⟩:=by kernel_rfl
@[simp] theorem T_204:T 204=some ⟨.slice 207,1,24,.nilS,.slice none 0 0,none,false,false⟩:=by kernel_rfl
@[simp] theorem T_205:T 205=some ⟨.struct #[⟨ "n",3,0,false, "", "dross/update",0⟩,⟨ "parent",62,1,false, "", "dross/update",8⟩,⟨ "known",204,2,false, "", "dross/update",32⟩],3,56,.agg [.int .i64 0,.nilS,.nilS],.agg #[.int .i64 0,.slice none 0 0,.slice none 0 0],none,true,false⟩:=by kernel_rfl
@[simp] theorem T_206:T 206=some ⟨.struct #[⟨ "n",3,0,false, "", "dross/update",0⟩,⟨ "parent",62,1,false, "", "dross/update",8⟩,⟨ "known",204,2,false, "", "dross/update",32⟩],3,56,.agg [.int .i64 0,.nilS,.nilS],.agg #[.int .i64 0,.slice none 0 0,.slice none 0 0],none,true,false⟩:=by kernel_rfl
@[simp] theorem T_207:T 207=some ⟨.pointer 119,1,8,.nilP,.pointer none,none,false,false⟩:=by kernel_rfl
@[simp] theorem T_209:T 209=some ⟨.func #[31,31] #[27] false,1,8,.nilFn,.nilFunc,none,false,false⟩:=by kernel_rfl
@[simp] theorem T_210:T 210=some ⟨.func #[27,133,211] #[3,4] false,1,8,.nilFn,.nilFunc,none,false,false⟩:=by kernel_rfl
@[simp] theorem T_211:T 211=some ⟨.func #[133,133] #[3] false,1,8,.nilFn,.nilFunc,none,false,false⟩:=by kernel_rfl
@[simp] theorem T_212:T 212=some ⟨.func #[31,158,27] #[4] false,1,8,.nilFn,.nilFunc,none,false,false⟩:=by kernel_rfl
@[simp] theorem T_213:T 213=some ⟨.func #[27,27] #[3] false,1,8,.nilFn,.nilFunc,none,false,false⟩:=by kernel_rfl
@[simp] theorem T_215:T 215=some ⟨.func #[32] #[178,27] false,1,8,.nilFn,.nilFunc,none,false,false⟩:=by kernel_rfl
@[simp] theorem T_217:T 217=some ⟨.func #[9] #[21,3] false,1,8,.nilFn,.nilFunc,none,false,false⟩:=by kernel_rfl
@[simp] theorem T_218:T 218=some ⟨.int .i64,1,8,.int .i64 0,.int .i64 0,some (.int .i64),false,false⟩:=by kernel_rfl
@[simp] theorem T_219:T 219=some ⟨.int .u64,1,8,.int .u64 0,.int .u64 0,some (.int .u64),false,false⟩:=by kernel_rfl
@[simp] theorem T_221:T 221=some ⟨.func #[9,3,3] #[219,124] false,1,8,.nilFn,.nilFunc,none,false,false⟩:=by kernel_rfl
@[simp] theorem T_222:T 222=some ⟨.int .u64,1,8,.int .u64 0,.int .u64 0,some (.int .u64),false,false⟩:=by kernel_rfl
@[simp] theorem T_223:T 223=some ⟨.pointer 282,1,8,.nilP,.pointer none,none,false,false⟩:=by kernel_rfl
@[simp] theorem T_224:T 224=some ⟨.func #[9,9] #[223] false,1,8,.nilFn,.nilFunc,none,false,false⟩:=by kernel_rfl
@[simp] theorem T_225:T 225=some ⟨.func #[9,9,3] #[223] false,1,8,.nilFn,.nilFunc,none,false,false⟩:=by kernel_rfl
@[simp] theorem T_226:T 226=some ⟨.func #[3] #[9] false,1,8,.nilFn,.nilFunc,none,false,false⟩:=by kernel_rfl
@[simp] theorem T_227:T 227=some ⟨.array 24 5,24,24,.agg [.int .u8 0,.int .u8 0,.int .u8 0,.int .u8 0,.int .u8 0,.int .u8 0,.int .u8 0,.int .u8 0,.int .u8 0,.int .u8 0,.int .u8 0,.int .u8 0,.int .u8 0,.int .u8 0,.int .u8 0,.int .u8 0,.int .u8 0,.int .u8 0,.int .u8 0,.int .u8 0,.int .u8 0,.int .u8 0,.int .u8 0,.int .u8 0],.agg #[.int .u8 0,.int .u8 0,.int .u8 0,.int .u8 0,.int .u8 0,.int .u8 0,.int .u8 0,.int .u8 0,.int .u8 0,.int .u8 0,.int .u8 0,.int .u8 0,.int .u8 0,.int .u8 0,.int .u8 0,.int .u8 0,.int .u8 0,.int .u8 0,.int .u8 0,.int .u8 0,.int .u8 0,.int .u8 0,.int .u8 0,.int .u8 0],none,true,false⟩:=by kernel_rfl
@[simp] theorem T_228:T 228=some ⟨.func #[219] #[3] false,1,8,.nilFn,.nilFunc,none,false,false⟩:=by kernel_rfl
@[simp] theorem T_229:T 229=some ⟨.func #[57,219] #[] false,1,8,.nilFn,.nilFunc,none,false,false⟩:=by kernel_rfl
@[simp] theorem T_231:T 231=some ⟨.func #[57,219,3,4,4] #[57,9] false,1,8,.nilFn,.nilFunc,none,false,false⟩:=by kernel_rfl
@[simp] theorem T_232:T 232=some ⟨.func #[23,131] #[4] false,1,8,.nilFn,.nilFunc,none,false,false⟩:=by kernel_rfl
@[simp] theorem T_233:T 233=some ⟨.func #[119,119] #[3] false,1,8,.nilFn,.nilFunc,none,false,false⟩:=by kernel_rfl
@[simp] theorem T_234:T 234=some ⟨.func #[2,2] #[3] false,1,8,.nilFn,.nilFunc,none,false,false⟩:=by kernel_rfl
@[simp] theorem T_236:T 236=some ⟨.func #[235] #[235] false,1,8,.nilFn,.nilFunc,none,false,false⟩:=by kernel_rfl
@[simp] theorem T_237:T 237=some ⟨.func #[3] #[57] false,1,8,.nilFn,.nilFunc,none,false,false⟩:=by kernel_rfl
@[simp] theorem T_238:T 238=some ⟨.slice 23,1,24,.nilS,.slice none 0 0,none,false,false⟩:=by kernel_rfl
@[simp] theorem T_239:T 239=some ⟨.struct #[⟨ "Vertices",23,0,false, "", "",0⟩,⟨ "Edges",238,1,false, "", "",24⟩],2,48,.agg [.nilS,.nilS],.agg #[.slice none 0 0,.slice none 0 0],none,true,false⟩:=by kernel_rfl
@[simp] theorem T_240:T 240=some ⟨.struct #[⟨ "Vertices",23,0,false, "", "",0⟩,⟨ "Edges",238,1,false, "", "",24⟩],2,48,.agg [.nilS,.nilS],.agg #[.slice none 0 0,.slice none 0 0],none,true,false⟩:=by kernel_rfl
@[simp] theorem T_242:T 242=some ⟨.func #[31,75] #[240,44] false,1,8,.nilFn,.nilFunc,none,false,false⟩:=by kernel_rfl
@[simp] theorem T_243:T 243=some ⟨.func #[23] #[23] false,1,8,.nilFn,.nilFunc,none,false,false⟩:=by kernel_rfl
@[simp] theorem T_244:T 244=some ⟨.func #[23,2] #[3,4] false,1,8,.nilFn,.nilFunc,none,false,false⟩:=by kernel_rfl
@[simp] theorem T_245:T 245=some ⟨.func #[178] #[44] false,1,8,.nilFn,.nilFunc,none,false,false⟩:=by kernel_rfl
@[simp] theorem T_246:T 246=some ⟨.func #[29,247] #[3] false,1,8,.nilFn,.nilFunc,none,false,false⟩:=by kernel_rfl
@[simp] theorem T_247:T 247=some ⟨.func #[105] #[4] false,1,8,.nilFn,.nilFunc,none,false,false⟩:=by kernel_rfl
@[simp] theorem T_248:T 248=some ⟨.func #[176,251] #[4] false,1,8,.nilFn,.nilFunc,none,false,false⟩:=by kernel_rfl
@[simp] theorem T_249:T 249=some ⟨.func #[62,128] #[4] false,1,8,.nilFn,.nilFunc,none,false,false⟩:=by kernel_rfl
@[simp] theorem T_250:T 250=some ⟨.func #[62,3] #[4] false,1,8,.nilFn,.nilFunc,none,false,false⟩:=by kernel_rfl
@[simp] theorem T_251:T 251=some ⟨.func #[62] #[4] false,1,8,.nilFn,.nilFunc,none,false,false⟩:=by kernel_rfl
@[simp] theorem T_253:T 253=some ⟨.pointer 301,1,8,.nilP,.pointer none,none,false,false⟩:=by kernel_rfl
@[simp] theorem T_254:T 254=some ⟨.func #[178,3] #[253] false,1,8,.nilFn,.nilFunc,none,false,false⟩:=by kernel_rfl
@[simp] theorem T_255:T 255=some ⟨.func #[24,2] #[24,4] false,1,8,.nilFn,.nilFunc,none,false,false⟩:=by kernel_rfl
@[simp] theorem T_256:T 256=some ⟨.func #[31,2] #[3,4] false,1,8,.nilFn,.nilFunc,none,false,false⟩:=by kernel_rfl
@[simp] theorem T_257:T 257=some ⟨.func #[105,105] #[39] false,1,8,.nilFn,.nilFunc,none,false,false⟩:=by kernel_rfl
@[simp] theorem T_259:T 259=some ⟨.func #[31,39] #[238,44] false,1,8,.nilFn,.nilFunc,none,false,false⟩:=by kernel_rfl
@[simp] theorem T_260:T 260=some ⟨.func #[35,261] #[] false,1,8,.nilFn,.nilFunc,none,false,false⟩:=by kernel_rfl
@[simp] theorem T_261:T 261=some ⟨.func #[39,39] #[3] false,1,8,.nilFn,.nilFunc,none,false,false⟩:=by kernel_rfl
@[simp] theorem T_262:T 262=some ⟨.func #[39] #[35] false,1,8,.nilFn,.nilFunc,none,false,false⟩:=by kernel_rfl
@[simp] theorem T_263:T 263=some ⟨.func #[35,264] #[4] false,1,8,.nilFn,.nilFunc,none,false,false⟩:=by kernel_rfl
@[simp] theorem T_264:T 264=some ⟨.func #[39] #[4] false,1,8,.nilFn,.nilFunc,none,false,false⟩:=by kernel_rfl
@[simp] theorem T_265:T 265=some ⟨.func #[28,9] #[4] false,1,8,.nilFn,.nilFunc,none,false,false⟩:=by kernel_rfl
@[simp] theorem T_266:T 266=some ⟨.func #[103] #[4] false,1,8,.nilFn,.nilFunc,none,false,false⟩:=by kernel_rfl
@[simp] theorem T_267:T 267=some ⟨.func #[3,158] #[44] false,1,8,.nilFn,.nilFunc,none,false,false⟩:=by kernel_rfl
@[simp] theorem T_268:T 268=some ⟨.func #[3,158,37,3] #[4] false,1,8,.nilFn,.nilFunc,none,false,false⟩:=by kernel_rfl
@[simp] theorem T_269:T 269=some ⟨.func #[27] #[4] false,1,8,.nilFn,.nilFunc,none,false,false⟩:=by kernel_rfl
@[simp] theorem T_270:T 270=some ⟨.func #[3,3,39] #[4] false,1,8,.nilFn,.nilFunc,none,false,false⟩:=by kernel_rfl
@[simp] theorem T_271:T 271=some ⟨.func #[29,29,102] #[4] false,1,8,.nilFn,.nilFunc,none,false,false⟩:=by kernel_rfl
@[simp] theorem T_272:T 272=some ⟨.func #[62] #[3] true,1,8,.nilFn,.nilFunc,none,false,false⟩:=by kernel_rfl
@[simp] theorem T_273:T 273=some ⟨.func #[3,3] #[3] false,1,8,.nilFn,.nilFunc,none,false,false⟩:=by kernel_rfl
@[simp] theorem T_274:T 274=some ⟨.func #[31,27] #[27] false,1,8,.nilFn,.nilFunc,none,false,false⟩:=by kernel_rfl
@[simp] theorem T_275:T 275=some ⟨.func #[27,27,211] #[3] false,1,8,.nilFn,.nilFunc,none,false,false⟩:=by kernel_rfl
@[simp] theorem T_276:T 276=some ⟨.func #[32] #[27] true,1,8,.nilFn,.nilFunc,none,false,false⟩:=by kernel_rfl
@[simp] theorem T_277:T 277=some ⟨.func #[27,211] #[] false,1,8,.nilFn,.nilFunc,none,false,false⟩:=by kernel_rfl
@[simp] theorem T_278:T 278=some ⟨.func #[27] #[27] false,1,8,.nilFn,.nilFunc,none,false,false⟩:=by kernel_rfl
@[simp] theorem T_279:T 279=some ⟨.func #[5] #[5] false,1,8,.nilFn,.nilFunc,none,false,false⟩:=by kernel_rfl
@[simp] theorem T_280:T 280=some ⟨.func #[9] #[9] false,1,8,.nilFn,.nilFunc,none,false,false⟩:=by kernel_rfl
@[simp] theorem T_281:T 281=some ⟨.struct #[⟨ "Func",9,0,false, "", "",0⟩,⟨ "Num",9,1,false, "", "",16⟩,⟨ "Err",124,2,false, "", "",32⟩],3,48,.agg [.str aX,.str aX,.nilI],.agg #[.string aX,.string aX,.nilIface],none,false,false⟩:=by kernel_rfl
@[simp] theorem T_282:T 282=some ⟨.struct #[⟨ "Func",9,0,false, "", "",0⟩,⟨ "Num",9,1,false, "", "",16⟩,⟨ "Err",124,2,false, "", "",32⟩],3,48,.agg [.str aX,.str aX,.nilI],.agg #[.string aX,.string aX,.nilIface],none,false,false⟩:=by kernel_rfl
@[simp] theorem T_283:T 283=some ⟨.func #[9] #[124] false,1,8,.nilFn,.nilFunc,none,false,false⟩:=by kernel_rfl
@[simp] theorem T_284:T 284=some ⟨.func #[4] #[3] false,1,8,.nilFn,.nilFunc,none,false,false⟩:=by kernel_rfl
@[simp] theorem T_285:T 285=some ⟨.array 20 219,20,160,.agg [.int .u64 0,.int .u64 0,.int .u64 0,.int .u64 0,.int .u64 0,.int .u64 0,.int .u64 0,.int .u64 0,.int .u64 0,.int .u64 0,.int .u64 0,.int .u64 0,.int .u64 0,.int .u64 0,.int .u64 0,.int .u64 0,.int .u64 0,.int .u64 0,.int .u64 0,.int .u64 0],.agg #[.int .u64 0,.int .u64 0,.int .u64 0,.int .u64 0,.int .u64 0,.int .u64 0,.int .u64 0,.int .u64 0,.int .u64 0,.int .u64 0,.int .u64 0,.int .u64 0,.int .u64 0,.int .u64 0,.int .u64 0,.int .u64 0,.int .u64 0,.int .u64 0,.int .u64 0,.int .u64 0],none,true,false⟩:=by kernel_rfl
@[simp] theorem T_286:T 286=some ⟨.array 65 5,65,65,.agg [.int .u8 0,.int .u8 0,.int .u8 0,.int .u8 0,.int .u8 0,.int .u8 0,.int .u8 0,.int .u8 0,.int .u8 0,.int .u8 0,.int .u8 0,.int .u8 0,.int .u8 0,.int .u8 0,.int .u8 0,.int .u8 0,.int .u8 0,.int .u8 0,.int .u8 0,.int .u8 0,.int .u8 0,.int .u8 0,.int .u8 0,.int .u8 0,.int .u8 0,.int .u8 0,.int .u8 0,.int .u8 0,.int .u8 0,.int .u8 0,.int .u8 0,.int .u8 0,.int .u8 0,.int .u8 0,.int .u8 0,.int .u8 0,.int .u8 0,.int .u8 0,.int .u8 0,.int .u8 0,.int .u8 0,.int .u8 0,.int .u8 0,.int .u8 0,.int .u8 0,.int .u8 0,.int .u8 0,.int .u8 0,.int .u8 0,.int .u8 0,.int .u8 0,.int .u8 0,.int .u8 0,.int .u8 0,.int .u8 0,.int .u8 0,.int .u8 0,.int .u8 0,.int .u8 0,.int .u8 0,.int .u8 0,.int .u8 0,.int .u8 0,.int .u8 0,.int .u8 0],.agg #[.int .u8 0,.int .u8 0,.int .u8 0,.int .u8 0,.int .u8 0,.int .u8 0,.int .u8 0,.int .u8 0,.int .u8 0,.int .u8 0,.int .u8 0,.int .u8 0,.int .u8 0,.int .u8 0,.int .u8 0,.int .u8 0,.int .u8 0,.int .u8 0,.int .u8 0,.int .u8 0,.int .u8 0,.int .u8 0,.int .u8 0,.int .u8 0,.int .u8 0,.int .u8 0,.int .u8 0,.int .u8 0,.int .u8 0,.int .u8 0,.int .u8 0,.int .u8 0,.int .u8 0,.int .u8 0,.int .u8 0,.int .u8 0,.int .u8 0,.int .u8 0,.int .u8 0,.int .u8 0,.int .u8 0,.int .u8 0,.int .u8 0,.int .u8 0,.int .u8 0,.int .u8 0,.int .u8 0,.int .u8 0,.int .u8 0,.int .u8 0,.int .u8 0,.int .u8 0,.int .u8 0,.int .u8 0,.int .u8 0,.int .u8 0,.int .u8 0,.int .u8 0,.int .u8 0,.int .u8 0,.int .u8 0,.int .u8 0,.int .u8 0,.int .u8 0,.int .u8 0],none,true,false⟩:=by kernel_rfl
@[simp] theorem T_287:T 287=some ⟨.func #[222] #[3] false,1,8,.nilFn,.nilFunc,none,false,false⟩:=by kernel_rfl
@[simp] theorem T_288:T 288=some ⟨.func #[23,131] #[3] false,1,8,.nilFn,.nilFunc,none,false,false⟩:=by kernel_rfl
@[simp] theorem T_290:T 290=some ⟨.func #[9] #[38,38] false,1,8,.nilFn,.nilFunc,none,false,false⟩:=by kernel_rfl
@[simp] theorem T_291:T 291=some ⟨.slice 72,1,24,.nilS,.slice none 0 0,none,false,false⟩:=by kernel_rfl
@[simp] theorem T_293:T 293=some ⟨.func #[31,74] #[291,44] false,1,8,.nilFn,.nilFunc,none,false,false⟩:=by kernel_rfl
@[simp] theorem T_294:T 294=some ⟨.func #[31,74] #[238,44] false,1,8,.nilFn,.nilFunc,none,false,false⟩:=by kernel_rfl
@[simp] theorem T_295:T 295=some ⟨.func #[238] #[238] false,1,8,.nilFn,.nilFunc,none,false,false⟩:=by kernel_rfl
@[simp] theorem T_296:T 296=some ⟨.func #[2,2] #[4] false,1,8,.nilFn,.nilFunc,none,false,false⟩:=by kernel_rfl
@[simp] theorem T_297:T 297=some ⟨.func #[176,251] #[3] false,1,8,.nilFn,.nilFunc,none,false,false⟩:=by kernel_rfl
@[simp] theorem T_298:T 298=some ⟨.func #[62,128] #[3] false,1,8,.nilFn,.nilFunc,none,false,false⟩:=by kernel_rfl
@[simp] theorem T_299:T 299=some ⟨.func #[62,3] #[3] false,1,8,.nilFn,.nilFunc,none,false,false⟩:=by kernel_rfl
@[simp] theorem T_300:T 300=some ⟨.struct #[⟨ "in",178,0,false, "", "dross/hitset",0⟩,⟨ "marks",62,2,false, "", "dross/hitset",48⟩,⟨ "left",3,3,false, "", "dross/hitset",72⟩],4,80,.agg [.nilS,.nilS,.nilS,.int .i64 0],.agg #[.slice none 0 0,.slice none 0 0,.slice none 0 0,.int .i64 0],none,true,false⟩:=by kernel_rfl
@[simp] theorem T_301:T 301=some ⟨.struct #[⟨ "in",178,0,false, "", "dross/hitset",0⟩,⟨ "marks",62,2,false, "", "dross/hitset",48⟩,⟨ "left",3,3,false, "", "dross/hitset",72⟩],4,80,.agg [.nilS,.nilS,.nilS,.int .i64 0],.agg #[.slice none 0 0,.slice none 0 0,.slice none 0 0,.int .i64 0],none,true,false⟩:=by kernel_rfl
@[simp] theorem T_302:T 302=some ⟨.func #[106,2] #[4] false,1,8,.nilFn,.nilFunc,none,false,false⟩:=by kernel_rfl
@[simp] theorem T_303:T 303=some ⟨.map 9 3,1,8,.nilM,.map none,none,false,false⟩:=by kernel_rfl
@[simp] theorem T_304:T 304=some ⟨.func #[39] #[62] false,1,8,.nilFn,.nilFunc,none,false,false⟩:=by kernel_rfl
@[simp] theorem T_305:T 305=some ⟨.func #[119] #[9,44] false,1,8,.nilFn,.nilFunc,none,false,false⟩:=by kernel_rfl
@[simp] theorem T_306:T 306=some ⟨.func #[238,307] #[238] false,1,8,.nilFn,.nilFunc,none,false,false⟩:=by kernel_rfl
@[simp] theorem T_307:T 307=some ⟨.func #[23] #[4] false,1,8,.nilFn,.nilFunc,none,false,false⟩:=by kernel_rfl
@[simp] theorem T_308:T 308=some ⟨.func #[35,3,3,3,261] #[] false,1,8,.nilFn,.nilFunc,none,false,false⟩:=by kernel_rfl
@[simp] theorem T_309:T 309=some ⟨.func #[39] #[3] false,1,8,.nilFn,.nilFunc,none,false,false⟩:=by kernel_rfl
@[simp] theorem T_310:T 310=some ⟨.func #[35,264] #[3] false,1,8,.nilFn,.nilFunc,none,false,false⟩:=by kernel_rfl
@[simp] theorem T_311:T 311=some ⟨.func #[28,9] #[3] false,1,8,.nilFn,.nilFunc,none,false,false⟩:=by kernel_rfl
@[simp] theorem T_312:T 312=some ⟨.func #[103,313] #[4] false,1,8,.nilFn,.nilFunc,none,false,false⟩:=by kernel_rfl
@[simp] theorem T_313:T 313=some ⟨.func #[119] #[4] false,1,8,.nilFn,.nilFunc,none,false,false⟩:=by kernel_rfl
@[simp] theorem T_314:T 314=some ⟨.func #[39,39] #[4] false,1,8,.nilFn,.nilFunc,none,false,false⟩:=by kernel_rfl
@[simp] theorem T_315:T 315=some ⟨.func #[3] #[39] false,1,8,.nilFn,.nilFunc,none,false,false⟩:=by kernel_rfl
@[simp] theorem T_316:T 316=some ⟨.func #[3] #[41,4] false,1,8,.nilFn,.nilFunc,none,false,false⟩:=by kernel_rfl
@[simp] theorem T_318:T 318=some ⟨.func #[27,3] #[27] false,1,8,.nilFn,.nilFunc,none,false,false⟩:=by kernel_rfl
@[simp] theorem T_319:T 319=some ⟨.func #[27,3,3,3,211] #[] false,1,8,.nilFn,.nilFunc,none,false,false⟩:=by kernel_rfl
@[simp] theorem T_320:T 320=some ⟨.array 256 5,256,256,.agg [.int .u8 0,.int .u8 0,.int .u8 0,.int .u8 0,.int .u8 0,.int .u8 0,.int .u8 0,.int .u8 0,.int .u8 0,.int .u8 0,.int .u8 0,.int .u8 0,.int .u8 0,.int .u8 0,.int .u8 0,.int .u8 0,.int .u8 0,.int .u8 0,.int .u8 0,.int .u8 0,.int .u8 0,.int .u8 0,.int .u8 0,.int .u8 0,.int .u8 0,.int .u8 0,.int .u8 0,.int .u8 0,.int .u8 0,.int .u8 0,.int .u8 0,.int .u8 0,.int .u8 0,.int .u8 0,.int .u8 0,.int .u8 0,.int .u8 0,.int .u8 0,.int .u8 0,.int .u8 0,.int .u8 0,.int .u8 0,.int .u8 0,.int .u8 0,.int .u8 0,.int .u8 0,.int .u8 0,.int .u8 0,.int .u8 0,.int .u8 0,.int .u8 0,.int .u8 0,.int .u8 0,.int .u8 0,.int .u8 0,.int .u8 0,.int .u8 0,.int .u8 0,.int .u8 0,.int .u8 0,.int .u8 0,.int .u8 0,.int .u8 0,.int .u8 0,.int .u8 0,.int .u8 0,.int .u8 0,.int .u8 0,.int .u8 0,.int .u8 0,.int .u8 0,.int .u8 0,.int .u8 0,.int .u8 0,.int .u8 0,.int .u8 0,.int .u8 0,.int .u8 0,.int .u8 0,.int .u8 0,.int .u8 0,.int .u8 0,.int .u8 0,.int .u8 0,.int .u8 0,.int .u8 0,.int .u8 0,.int .u8 0,.int .u8 0,.int .u8 0,.int .u8 0,.int .u8 0,.int .u8 0,.int .u8 0,.int .u8 0,.int .u8 0,.int .u8 0,.int .u8 0,.int .u8 0,.int .u8 0,.int .u8 0,.int .u8 0,.int .u8 0,.int .u8 0,.int .u8 0,.int .u8 0,.int .u8 0,.int .u8 0,.int .u8 0,.int .u8 0,.int .u8 0,.int .u8 0,.int .u8 0,.int .u8 0,.int .u8 0,.int .u8 0,.int .u8 0,.int .u8 0,.int .u8 0,.int .u8 0,.int .u8 0,.int .u8 0,.int .u8 0,.int .u8 0,.int .u8 0,.int .u8 0,.int .u8 0,.int .u8 0,.int .u8 0,.int .u8 0,.int .u8 0,.int .u8 0,.int .u8 0,.int .u8 0,.int .u8 0,.int .u8 0,.int .u8 0,.int .u8 0,.int .u8 0,.int .u8 0,.int .u8 0,.int .u8 0,.int .u8 0,.int .u8 0,.int .u8 0,.int .u8 0,.int .u8 0,.int .u8 0,.int .u8 0,.int .u8 0,.int .u8 0,.int .u8 0,.int .u8 0,.int .u8 0,.int .u8 0,.int .u8 0,.int .u8 0,.int .u8 0,.int .u8 0,.int .u8 0,.int .u8 0,.int .u8 0,.int .u8 0,.int .u8 0,.int .u8 0,.int .u8 0,.int .u8 0,.int .u8 0,.int .u8 0,.int .u8 0,.int .u8 0,.int .u8 0,.int .u8 0,.int .u8 0,.int .u8 0,.int .u8 0,.int .u8 0,.int .u8 0,.int .u8 0,.int .u8 0,.int .u8 0,.int .u8 0,.int .u8 0,.int .u8 0,.int .u8 0,.int .u8 0,.int .u8 0,.int .u8 0,.int .u8 0,.int .u8 0,.int .u8 0,.int .u8 0,.int .u8 0,.int .u8 0,.int .u8 0,.int .u8 0,.int .u8 0,.int .u8 0,.int .u8 0,.int .u8 0,.int .u8 0,.int .u8 0,.int .u8 0,.int .u8 0,.int .u8 0,.int .u8 0,.int .u8 0,.int .u8 0,.int .u8 0,.int .u8 0,.int .u8 0,.int .u8 0,.int .u8 0,.int .u8 0,.int .u8 0,.int .u8 0,.int .u8 0,.int .u8 0,.int .u8 0,.int .u8 0,.int .u8 0,.int .u8 0,.int .u8 0,.int .u8 0,.int .u8 0,.int .u8 0,.int .u8 0,.int .u8 0,.int .u8 0,.int .u8 0,.int .u8 0,.int .u8 0,.int .u8 0,.int .u8 0,.int .u8 0,.int .u8 0,.int .u8 0,.int .u8 0,.int .u8 0,.int .u8 0,.int .u8 0,.int .u8 0,.int .u8 0,.int .u8 0,.int .u8 0,.int .u8 0,.int .u8 0,.int .u8 0,.int .u8 0,.int .u8 0,.int .u8 0,.int .u8 0,.int .u8 0,.int .u8 0,.int .u8 0,.int .u8 0],.agg #[.int .u8 0,.int .u8 0,.int .u8 0,.int .u8 0,.int .u8 0,.int .u8 0,.int .u8 0,.int .u8 0,.int .u8 0,.int .u8 0,.int .u8 0,.int .u8 0,.int .u8 0,.int .u8 0,.int .u8 0,.int .u8 0,.int .u8 0,.int .u8 0,.int .u8 0,.int .u8 0,.int .u8 0,.int .u8 0,.int .u8 0,.int .u8 0,.int .u8 0,.int .u8 0,.int .u8 0,.int .u8 0,.int .u8 0,.int .u8 0,.int .u8 0,.int .u8 0,.int .u8 0,.int .u8 0,.int .u8 0,.int .u8 0,.int .u8 0,.int .u8 0,.int .u8 0,.int .u8 0,.int .u8 0,.int .u8 0,.int .u8 0,.int .u8 0,.int .u8 0,.int .u8 0,.int .u8 0,.int .u8 0,.int .u8 0,.int .u8 0,.int .u8 0,.int .u8 0,.int .u8 0,.int .u8 0,.int .u8 0,.int .u8 0,.int .u8 0,.int .u8 0,.int .u8 0,.int .u8 0,.int .u8 0,.int .u8 0,.int .u8 0,.int .u8 0,.int .u8 0,.int .u8 0,.int .u8 0,.int .u8 0,.int .u8 0,.int .u8 0,.int .u8 0,.int .u8 0,.int .u8 0,.int .u8 0,.int .u8 0,.int .u8 0,.int .u8 0,.int .u8 0,.int .u8 0,.int .u8 0,.int .u8 0,.int .u8 0,.int .u8 0,.int .u8 0,.int .u8 0,.int .u8 0,.int .u8 0,.int .u8 0,.int .u8 0,.int .u8 0,.int .u8 0,.int .u8 0,.int .u8 0,.int .u8 0,.int .u8 0,.int .u8 0,.int .u8 0,.int .u8 0,.int .u8 0,.int .u8 0,.int .u8 0,.int .u8 0,.int .u8 0,.int .u8 0,.int .u8 0,.int .u8 0,.int .u8 0,.int .u8 0,.int .u8 0,.int .u8 0,.int .u8 0,.int .u8 0,.int .u8 0,.int .u8 0,.int .u8 0,.int .u8 0,.int .u8 0,.int .u8 0,.int .u8 0,.int .u8 0,.int .u8 0,.int .u8 0,.int .u8 0,.int .u8 0,.int .u8 0,.int .u8 0,.int .u8 0,.int .u8 0,.int .u8 0,.int .u8 0,.int .u8 0,.int .u8 0,.int .u8 0,.int .u8 0,.int .u8 0,.int .u8 0,.int .u8 0,.int .u8 0,.int .u8 0,.int .u8 0,.int .u8 0,.int .u8 0,.int .u8 0,.int .u8 0,.int .u8 0,.int .u8 0,.int .u8 0,.int .u8 0,.int .u8 0,.int .u8 0,.int .u8 0,.int .u8 0,.int .u8 0,.int .u8 0,.int .u8 0,.int .u8 0,.int .u8 0,.int .u8 0,.int .u8 0,.int .u8 0,.int .u8 0,.int .u8 0,.int .u8 0,.int .u8 0,.int .u8 0,.int .u8 0,.int .u8 0,.int .u8 0,.int .u8 0,.int .u8 0,.int .u8 0,.int .u8 0,.int .u8 0,.int .u8 0,.int .u8 0,.int .u8 0,.int .u8 0,.int .u8 0,.int .u8 0,.int .u8 0,.int .u8 0,.int .u8 0,.int .u8 0,.int .u8 0,.int .u8 0,.int .u8 0,.int .u8 0,.int .u8 0,.int .u8 0,.int .u8 0,.int .u8 0,.int .u8 0,.int .u8 0,.int .u8 0,.int .u8 0,.int .u8 0,.int .u8 0,.int .u8 0,.int .u8 0,.int .u8 0,.int .u8 0,.int .u8 0,.int .u8 0,.int .u8 0,.int .u8 0,.int .u8 0,.int .u8 0,.int .u8 0,.int .u8 0,.int .u8 0,.int .u8 0,.int .u8 0,.int .u8 0,.int .u8 0,.int .u8 0,.int .u8 0,.int .u8 0,.int .u8 0,.int .u8 0,.int .u8 0,.int .u8 0,.int .u8 0,.int .u8 0,.int .u8 0,.int .u8 0,.int .u8 0,.int .u8 0,.int .u8 0,.int .u8 0,.int .u8 0,.int .u8 0,.int .u8 0,.int .u8 0,.int .u8 0,.int .u8 0,.int .u8 0,.int .u8 0,.int .u8 0,.int .u8 0,.int .u8 0,.int .u8 0,.int .u8 0,.int .u8 0,.int .u8 0,.int .u8 0,.int .u8 0,.int .u8 0,.int .u8 0,.int .u8 0,.int .u8 0,.int .u8 0,.int .u8 0,.int .u8 0,.int .u8 0,.int .u8 0,.int .u8 0],none,true,false⟩:=by kernel_rfl
@[simp] theorem T_321:T 321=some ⟨.struct #[⟨ "lo",5,0,false, "", "unicode/utf8",0⟩,⟨ "hi",5,1,false, "", "unicode/utf8",1⟩],2,2,.agg [.int .u8 0,.int .u8 0],.agg #[.int .u8 0,.int .u8 0],none,true,false⟩:=by kernel_rfl
@[simp] theorem T_322:T 322=some ⟨.struct #[⟨ "lo",5,0,false, "", "unicode/utf8",0⟩,⟨ "hi",5,1,false, "", "unicode/utf8",1⟩],2,2,.agg [.int .u8 0,.int .u8 0],.agg #[.int .u8 0,.int .u8 0],none,true,false⟩:=by kernel_rfl
@[simp] theorem T_323:T 323=some ⟨.array 16 322,32,32,.agg [.int .u8 0,.int .u8 0,.int .u8 0,.int .u8 0,.int .u8 0,.int .u8 0,.int .u8 0,.int .u8 0,.int .u8 0,.int .u8 0,.int .u8 0,.int .u8 0,.int .u8 0,.int .u8 0,.int .u8 0,.int .u8 0,.int .u8 0,.int .u8 0,.int .u8 0,.int .u8 0,.int .u8 0,.int .u8 0,.int .u8 0,.int .u8 0,.int .u8 0,.int .u8 0,.int .u8 0,.int .u8 0,.int .u8 0,.int .u8 0,.int .u8 0,.int .u8 0],.agg #[.int .u8 0,.int .u8 0,.int .u8 0,.int .u8 0,.int .u8 0,.int .u8 0,.int .u8 0,.int .u8 0,.int .u8 0,.int .u8 0,.int .u8 0,.int .u8 0,.int .u8 0,.int .u8 0,.int .u8 0,.int .u8 0,.int .u8 0,.int .u8 0,.int .u8 0,.int .u8 0,.int .u8 0,.int .u8 0,.int .u8 0,.int .u8 0,.int .u8 0,.int .u8 0,.int .u8 0,.int .u8 0,.int .u8 0,.int .u8 0,.int .u8 0,.int .u8 0],none,true,false⟩:=by kernel_rfl
@[simp] theorem T_324:T 324=some ⟨.pointer 326,1,8,.nilP,.pointer none,none,false,false⟩:=by kernel_rfl
@[simp] theorem T_325:T 325=some ⟨.struct #[⟨ "s",9,0,false, "", "errors",0⟩],1,16,.agg [.str aX],.agg #[.string aX],none,true,false⟩:=by kernel_rfl
@[simp] theorem T_326:T 326=some ⟨.struct #[⟨ "s",9,0,false, "", "errors",0⟩],1,16,.agg [.str aX],.agg #[.string aX],none,true,false⟩:=by kernel_rfl
@[simp] theorem T_327:T 327=some ⟨.func #[38] #[3] false,1,8,.nilFn,.nilFunc,none,false,false⟩:=by kernel_rfl
@[simp] theorem T_328:T 328=some ⟨.func #[3,41] #[291,44] false,1,8,.nilFn,.nilFunc,none,false,false⟩:=by kernel_rfl
@[simp] theorem T_329:T 329=some ⟨.func #[3,72] #[4] false,1,8,.nilFn,.nilFunc,none,false,false⟩:=by kernel_rfl
@[simp] theorem T_330:T 330=some ⟨.func #[3,67] #[4] false,1,8,.nilFn,.nilFunc,none,false,false⟩:=by kernel_rfl
@[simp] theorem T_331:T 331=some ⟨.func #[3,69] #[4] false,1,8,.nilFn,.nilFunc,none,false,false⟩:=by kernel_rfl
@[simp] theorem T_332:T 332=some ⟨.func #[31,67] #[238,44] false,1,8,.nilFn,.nilFunc,none,false,false⟩:=by kernel_rfl
@[simp] theorem T_333:T 333=some ⟨.func #[31,69] #[238,44] false,1,8,.nilFn,.nilFunc,none,false,false⟩:=by kernel_rfl
@[simp] theorem T_334:T 334=some ⟨.func #[31,72] #[238,44] false,1,8,.nilFn,.nilFunc,none,false,false⟩:=by kernel_rfl
@[simp] theorem T_335:T 335=some ⟨.map 336 4,1,8,.nilM,.map none,none,false,false⟩:=by kernel_rfl
@[simp] theorem T_336:T 336=some ⟨.array 3 2,3,24,.agg [.int .i64 0,.int .i64 0,.int .i64 0],.agg #[.int .i64 0,.int .i64 0,.int .i64 0],some (.arr 3),true,false⟩:=by kernel_rfl
@[simp] theorem T_337:T 337=some ⟨.func #[23] #[336] false,1,8,.nilFn,.nilFunc,none,false,false⟩:=by kernel_rfl
@[simp] theorem T_338:T 338=some ⟨.func #[238] #[23] true,1,8,.nilFn,.nilFunc,none,false,false⟩:=by kernel_rfl
@[simp] theorem T_339:T 339=some ⟨.func #[238,340] #[] false,1,8,.nilFn,.nilFunc,none,false,false⟩:=by kernel_rfl
@[simp] theorem T_340:T 340=some ⟨.func #[23,23] #[3] false,1,8,.nilFn,.nilFunc,none,false,false⟩:=by kernel_rfl
@[simp] theorem T_341:T 341=some ⟨.func #[238,95] #[238] false,1,8,.nilFn,.nilFunc,none,false,false⟩:=by kernel_rfl
@[simp] theorem T_342:T 342=some ⟨.func #[57,2] #[57] false,1,8,.nilFn,.nilFunc,none,false,false⟩:=by kernel_rfl
@[simp] theorem T_343:T 343=some ⟨.func #[238,307] #[3] false,1,8,.nilFn,.nilFunc,none,false,false⟩:=by kernel_rfl
@[simp] theorem T_344:T 344=some ⟨.func #[35,3,3,261] #[] false,1,8,.nilFn,.nilFunc,none,false,false⟩:=by kernel_rfl
@[simp] theorem T_345:T 345=some ⟨.int .i64,1,8,.int .i64 0,.int .i64 0,some (.int .i64),false,false⟩:=by kernel_rfl
@[simp] theorem T_347:T 347=some ⟨.func #[35,3,3,261] #[3,345] false,1,8,.nilFn,.nilFunc,none,false,false⟩:=by kernel_rfl
@[simp] theorem T_348:T 348=some ⟨.func #[35,3,3,261] #[4] false,1,8,.nilFn,.nilFunc,none,false,false⟩:=by kernel_rfl
@[simp] theorem T_349:T 349=some ⟨.func #[35,3,3,3,261] #[3] false,1,8,.nilFn,.nilFunc,none,false,false⟩:=by kernel_rfl
@[simp] theorem T_350:T 350=some ⟨.func #[35,3,3,3,261] #[3,4] false,1,8,.nilFn,.nilFunc,none,false,false⟩:=by kernel_rfl
@[simp] theorem T_351:T 351=some ⟨.func #[103,313] #[3] false,1,8,.nilFn,.nilFunc,none,false,false⟩:=by kernel_rfl
@[simp] theorem T_352:T 352=some ⟨.func #[27,3,3,211] #[] false,1,8,.nilFn,.nilFunc,none,false,false⟩:=by kernel_rfl
@[simp] theorem T_353:T 353=some ⟨.func #[27,3,3,211] #[3,345] false,1,8,.nilFn,.nilFunc,none,false,false⟩:=by kernel_rfl
@[simp] theorem T_354:T 354=some ⟨.func #[27,3,3,211] #[4] false,1,8,.nilFn,.nilFunc,none,false,false⟩:=by kernel_rfl
@[simp] theorem T_355:T 355=some ⟨.func #[27,3,3,3,211] #[3] false,1,8,.nilFn,.nilFunc,none,false,false⟩:=by kernel_rfl
@[simp] theorem T_356:T 356=some ⟨.func #[27,3,3,3,211] #[3,4] false,1,8,.nilFn,.nilFunc,none,false,false⟩:=by kernel_rfl
@[simp] theorem T_357:T 357=some ⟨.array 32 5,32,32,.agg [.int .u8 0,.int .u8 0,.int .u8 0,.int .u8 0,.int .u8 0,.int .u8 0,.int .u8 0,.int .u8 0,.int .u8 0,.int .u8 0,.int .u8 0,.int .u8 0,.int .u8 0,.int .u8 0,.int .u8 0,.int .u8 0,.int .u8 0,.int .u8 0,.int .u8 0,.int .u8 0,.int .u8 0,.int .u8 0,.int .u8 0,.int .u8 0,.int .u8 0,.int .u8 0,.int .u8 0,.int .u8 0,.int .u8 0,.int .u8 0,.int .u8 0,.int .u8 0],.agg #[.int .u8 0,.int .u8 0,.int .u8 0,.int .u8 0,.int .u8 0,.int .u8 0,.int .u8 0,.int .u8 0,.int .u8 0,.int .u8 0,.int .u8 0,.int .u8 0,.int .u8 0,.int .u8 0,.int .u8 0,.int .u8 0,.int .u8 0,.int .u8 0,.int .u8 0,.int .u8 0,.int .u8 0,.int .u8 0,.int .u8 0,.int .u8 0,.int .u8 0,.int .u8 0,.int .u8 0,.int .u8 0,.int .u8 0,.int .u8 0,.int .u8 0,.int .u8 0],none,true,false⟩:=by kernel_rfl
@[simp] theorem T_358:T 358=some ⟨.array 64 5,64,64,.agg [.int .u8 0,.int .u8 0,.int .u8 0,.int .u8 0,.int .u8 0,.int .u8 0,.int .u8 0,.int .u8 0,.int .u8 0,.int .u8 0,.int .u8 0,.int .u8 0,.int .u8 0,.int .u8 0,.int .u8 0,.int .u8 0,.int .u8 0,.int .u8 0,.int .u8 0,.int .u8 0,.int .u8 0,.int .u8 0,.int .u8 0,.int .u8 0,.int .u8 0,.int .u8 0,.int .u8 0,.int .u8 0,.int .u8 0,.int .u8 0,.int .u8 0,.int .u8 0,.int .u8 0,.int .u8 0,.int .u8 0,.int .u8 0,.int .u8 0,.int .u8 0,.int .u8 0,.int .u8 0,.int .u8 0,.int .u8 0,.int .u8 0,.int .u8 0,.int .u8 0,.int .u8 0,.int .u8 0,.int .u8 0,.int .u8 0,.int .u8 0,.int .u8 0,.int .u8 0,.int .u8 0,.int .u8 0,.int .u8 0,.int .u8 0,.int .u8 0,.int .u8 0,.int .u8 0,.int .u8 0,.int .u8 0,.int .u8 0,.int .u8 0,.int .u8 0],.agg #[.int .u8 0,.int .u8 0,.int .u8 0,.int .u8 0,.int .u8 0,.int .u8 0,.int .u8 0,.int .u8 0,.int .u8 0,.int .u8 0,.int .u8 0,.int .u8 0,.int .u8 0,.int .u8 0,.int .u8 0,.int .u8 0,.int .u8 0,.int .u8 0,.int .u8 0,.int .u8 0,.int .u8 0,.int .u8 0,.int .u8 0,.int .u8 0,.int .u8 0,.int .u8 0,.int .u8 0,.int .u8 0,.int .u8 0,.int .u8 0,.int .u8 0,.int .u8 0,.int .u8 0,.int .u8 0,.int .u8 0,.int .u8 0,.int .u8 0,.int .u8 0,.int .u8 0,.int .u8 0,.int .u8 0,.int .u8 0,.int .u8 0,.int .u8 0,.int .u8 0,.int .u8 0,.int .u8 0,.int .u8 0,.int .u8 0,.int .u8 0,.int .u8 0,.int .u8 0,.int .u8 0,.int .u8 0,.int .u8 0,.int .u8 0,.int .u8 0,.int .u8 0,.int .u8 0,.int .u8 0,.int .u8 0,.int .u8 0,.int .u8 0,.int .u8 0],none,true,false⟩:=by kernel_rfl
@[simp] theorem T_359:T 359=some ⟨.struct #[⟨ "Var",3,0,false, "", "",0⟩,⟨ "Attr",3,1,false, "", "",8⟩,⟨ "Value",119,2,false, "", "",16⟩],5,48,.agg [.int .i64 0,.int .i64 0,.int .i64 0,.int .i64 0,.str aX],.agg #[.int .i64 0,.int .i64 0,.int .i64 0,.int .i64 0,.string aX],none,true,false⟩:=by kernel_rfl
@[simp] theorem T_360:T 360=some ⟨.struct #[⟨ "Var",3,0,false, "", "",0⟩,⟨ "Attr",3,1,false, "", "",8⟩,⟨ "Value",119,2,false, "", "",16⟩],5,48,.agg [.int .i64 0,.int .i64 0,.int .i64 0,.int .i64 0,.str aX],.agg #[.int .i64 0,.int .i64 0,.int .i64 0,.int .i64 0,.string aX],none,true,false⟩:=by kernel_rfl
@[simp] theorem T_361:T 361=some ⟨.struct #[⟨ "Left",360,0,false, "", "",0⟩,⟨ "Op",3,5,false, "", "",48⟩,⟨ "Right",360,6,false, "", "",56⟩],11,104,.agg [.int .i64 0,.int .i64 0,.int .i64 0,.int .i64 0,.str aX,.int .i64 0,.int .i64 0,.int .i64 0,.int .i64 0,.int .i64 0,.str aX],.agg #[.int .i64 0,.int .i64 0,.int .i64 0,.int .i64 0,.string aX,.int .i64 0,.int .i64 0,.int .i64 0,.int .i64 0,.int .i64 0,.string aX],none,true,false⟩:=by kernel_rfl
@[simp] theorem T_362:T 362=some ⟨.struct #[⟨ "Left",360,0,false, "", "",0⟩,⟨ "Op",3,5,false, "", "",48⟩,⟨ "Right",360,6,false, "", "",56⟩],11,104,.agg [.int .i64 0,.int .i64 0,.int .i64 0,.int .i64 0,.str aX,.int .i64 0,.int .i64 0,.int .i64 0,.int .i64 0,.int .i64 0,.str aX],.agg #[.int .i64 0,.int .i64 0,.int .i64 0,.int .i64 0,.string aX,.int .i64 0,.int .i64 0,.int .i64 0,.int .i64 0,.int .i64 0,.string aX],none,true,false⟩:=by kernel_rfl
@[simp] theorem T_363:T 363=some ⟨.func #[3,3] #[362] false,1,8,.nilFn,.nilFunc,none,false,false⟩:=by kernel_rfl
@[simp] theorem T_364:T 364=some ⟨.func #[70,366] #[4] false,1,8,.nilFn,.nilFunc,none,false,false⟩:=by kernel_rfl
@[simp] theorem T_365:T 365=some ⟨.func #[3,3,360] #[4] false,1,8,.nilFn,.nilFunc,none,false,false⟩:=by kernel_rfl
@[simp] theorem T_366:T 366=some ⟨.func #[362] #[4] false,1,8,.nilFn,.nilFunc,none,false,false⟩:=by kernel_rfl
@[simp] theorem T_367:T 367=some ⟨.func #[65,370] #[4] false,1,8,.nilFn,.nilFunc,none,false,false⟩:=by kernel_rfl
@[simp] theorem T_368:T 368=some ⟨.struct #[⟨ "Any",4,0,false, "", "",0⟩,⟨ "Value",119,1,false, "", "",8⟩],4,40,.agg [.bool false,.int .i64 0,.int .i64 0,.str aX],.agg #[.bool false,.int .i64 0,.int .i64 0,.string aX],none,true,false⟩:=by kernel_rfl
@[simp] theorem T_369:T 369=some ⟨.struct #[⟨ "Any",4,0,false, "", "",0⟩,⟨ "Value",119,1,false, "", "",8⟩],4,40,.agg [.bool false,.int .i64 0,.int .i64 0,.str aX],.agg #[.bool false,.int .i64 0,.int .i64 0,.string aX],none,true,false⟩:=by kernel_rfl
@[simp] theorem T_370:T 370=some ⟨.func #[369] #[4] false,1,8,.nilFn,.nilFunc,none,false,false⟩:=by kernel_rfl
@[simp] theorem T_371:T 371=some ⟨.func #[3,62] #[4] false,1,8,.nilFn,.nilFunc,none,false,false⟩:=by kernel_rfl
@[simp] theorem T_372:T 372=some ⟨.func #[67,103] #[4] false,1,8,.nilFn,.nilFunc,none,false,false⟩:=by kernel_rfl
@[simp] theorem T_373:T 373=some ⟨.func #[369,119] #[4] false,1,8,.nilFn,.nilFunc,none,false,false⟩:=by kernel_rfl
@[simp] theorem T_374:T 374=some ⟨.func #[67] #[369] false,1,8,.nilFn,.nilFunc,none,false,false⟩:=by kernel_rfl
@[simp] theorem T_375:T 375=some ⟨.func #[67,103,103] #[4] false,1,8,.nilFn,.nilFunc,none,false,false⟩:=by kernel_rfl
@[simp] theorem T_376:T 376=some ⟨.func #[31,128] #[44] false,1,8,.nilFn,.nilFunc,none,false,false⟩:=by kernel_rfl
@[simp] theorem T_377:T 377=some ⟨.func #[105,105,69] #[3] false,1,8,.nilFn,.nilFunc,none,false,false⟩:=by kernel_rfl
@[simp] theorem T_378:T 378=some ⟨.func #[31,72] #[44] false,1,8,.nilFn,.nilFunc,none,false,false⟩:=by kernel_rfl
@[simp] theorem T_379:T 379=some ⟨.func #[31,72,29,381] #[4] false,1,8,.nilFn,.nilFunc,none,false,false⟩:=by kernel_rfl
@[simp] theorem T_380:T 380=some ⟨.func #[23] #[] false,1,8,.nilFn,.nilFunc,none,false,false⟩:=by kernel_rfl
@[simp] theorem T_381:T 381=some ⟨.func #[29] #[4] false,1,8,.nilFn,.nilFunc,none,false,false⟩:=by kernel_rfl
@[simp] theorem T_382:T 382=some ⟨.func #[23,3] #[23] false,1,8,.nilFn,.nilFunc,none,false,false⟩:=by kernel_rfl
@[simp] theorem T_383:T 383=some ⟨.func #[238,3,3,3,340] #[] false,1,8,.nilFn,.nilFunc,none,false,false⟩:=by kernel_rfl
@[simp] theorem T_384:T 384=some ⟨.int .u64,1,8,.int .u64 0,.int .u64 0,some (.int .u64),false,false⟩:=by kernel_rfl
@[simp] theorem T_385:T 385=some ⟨.func #[3] #[222] false,1,8,.nilFn,.nilFunc,none,false,false⟩:=by kernel_rfl
@[simp] theorem T_386:T 386=some ⟨.func #[] #[219] false,1,8,.nilFn,.nilFunc,none,false,false⟩:=by kernel_rfl
@[simp] theorem T_387:T 387=some ⟨.func #[35,3,388,261] #[3] false,1,8,.nilFn,.nilFunc,none,false,false⟩:=by kernel_rfl
@[simp] theorem T_388:T 388=some ⟨.pointer 3,1,8,.nilP,.pointer none,none,false,false⟩:=by kernel_rfl
@[simp] theorem T_389:T 389=some ⟨.func #[35,3,3,3,388,261] #[3] false,1,8,.nilFn,.nilFunc,none,false,false⟩:=by kernel_rfl
@[simp] theorem T_390:T 390=some ⟨.func #[27,3,388,211] #[3] false,1,8,.nilFn,.nilFunc,none,false,false⟩:=by kernel_rfl
@[simp] theorem T_391:T 391=some ⟨.func #[27,3,3,3,388,211] #[3] false,1,8,.nilFn,.nilFunc,none,false,false⟩:=by kernel_rfl
@[simp] theorem T_392:T 392=some ⟨.func #[3,3] #[360] false,1,8,.nilFn,.nilFunc,none,false,false⟩:=by kernel_rfl
@[simp] theorem T_393:T 393=some ⟨.func #[70,366] #[3] false,1,8,.nilFn,.nilFunc,none,false,false⟩:=by kernel_rfl
@[simp] theorem T_394:T 394=some ⟨.func #[65,370] #[3] false,1,8,.nilFn,.nilFunc,none,false,false⟩:=by kernel_rfl
@[simp] theorem T_395:T 395=some ⟨.func #[105,105,62] #[3] false,1,8,.nilFn,.nilFunc,none,false,false⟩:=by kernel_rfl
@[simp] theorem T_396:T 396=some ⟨.func #[29,70] #[4] false,1,8,.nilFn,.nilFunc,none,false,false⟩:=by kernel_rfl
@[simp] theorem T_397:T 397=some ⟨.func #[29,247] #[4] false,1,8,.nilFn,.nilFunc,none,false,false⟩:=by kernel_rfl
@[simp] theorem T_398:T 398=some ⟨.func #[29] #[29] false,1,8,.nilFn,.nilFunc,none,false,false⟩:=by kernel_rfl
@[simp] theorem T_399:T 399=some ⟨.func #[23,3,3,3] #[] false,1,8,.nilFn,.nilFunc,none,false,false⟩:=by kernel_rfl
@[simp] theorem T_400:T 400=some ⟨.func #[238,3,3,340] #[] false,1,8,.nilFn,.nilFunc,none,false,false⟩:=by kernel_rfl
theorem tok:TOk Tryz.prog T:=mk_ok
end
end Go.Proofs.YtdhgchekdkjcpaaGreatDoor
