/- JP7: own texts of this seat, joined and shortened by pack4.py: Ty. -/
import Derived.Test.YtjceoiofkccfdaaGreatDoorJP5
import Derived.Test.YtjceoiofkccfdaaGreatDoorProg
import Derived.KernelRfl
set_option linter.unusedVariables false
set_option linter.unusedSimpArgs false
set_option maxRecDepth 100000
set_option maxHeartbeats 64000000
open ByteArray renaming empty→gI
namespace Go.Proofs.YtjceoiofkccfdaaGreatDoor
section
open Go Go.AM
noncomputable def T:Ty:=mkTI Tryz.prog
@[simp] theorem T_1:T 1=some ⟨.func #[] #[] false,1,8,.nilFn,.nilFunc,none,false,false⟩:=by kernel_rfl
@[simp] theorem T_2:T 2=some ⟨.int .i64,1,8,.int .i64 0,.int .i64 0,some (.int .i64),false,false⟩:=by kernel_rfl
@[simp] theorem T_3:T 3=some ⟨.int .i64,1,8,.int .i64 0,.int .i64 0,some (.int .i64),false,false⟩:=by kernel_rfl
@[simp] theorem T_4:T 4=some ⟨.bool,1,1,.bool false,.bool false,some .bool,false,false⟩:=by kernel_rfl
@[simp] theorem T_5:T 5=some ⟨.int .u8,1,1,.int .u8 0,.int .u8 0,some (.int .u8),false,false⟩:=by kernel_rfl
@[simp] theorem T_6:T 6=some ⟨.int .u8,1,1,.int .u8 0,.int .u8 0,some (.int .u8),false,false⟩:=by kernel_rfl
@[simp] theorem T_7:T 7=some ⟨.struct #[⟨ "x",2,0,false, "", "runtime",0⟩,⟨ "y",3,1,false, "", "runtime",8⟩,⟨ "signed",4,2,false, "", "runtime",16⟩,⟨ "code",6,3,false, "", "runtime",17⟩],4,24,.agg [.int .i64 0,.int .i64 0,.bool false,.int .u8 0],.agg #[.int .i64 0,.int .i64 0,.bool false,.int .u8 0],none,true,false⟩:=by kernel_rfl
@[simp] theorem T_8:T 8=some ⟨.struct #[⟨ "x",2,0,false, "", "runtime",0⟩,⟨ "y",3,1,false, "", "runtime",8⟩,⟨ "signed",4,2,false, "", "runtime",16⟩,⟨ "code",6,3,false, "", "runtime",17⟩],4,24,.agg [.int .i64 0,.int .i64 0,.bool false,.int .u8 0],.agg #[.int .i64 0,.int .i64 0,.bool false,.int .u8 0],none,true,false⟩:=by kernel_rfl
@[simp] theorem T_9:T 9=some ⟨.string,1,16,.str gI,.string gI,some .str,false,false⟩:=by kernel_rfl
@[simp] theorem T_10:T 10=some ⟨.string,1,16,.str gI,.string gI,some .str,false,false⟩:=by kernel_rfl
@[simp] theorem T_11:T 11=some ⟨.string,1,16,.str gI,.string gI,some .str,false,false⟩:=by kernel_rfl
@[simp] theorem T_12:T 12=some ⟨.int .u64,1,8,.int .u64 0,.int .u64 0,some (.int .u64),false,false⟩:=by kernel_rfl
@[simp] theorem T_13:T 13=some ⟨.struct #[⟨ "msg",9,0,false, "", "runtime",0⟩,⟨ "addr",12,1,false, "", "runtime",16⟩],2,24,.agg [.str gI,.int .u64 0],.agg #[.string gI,.int .u64 0],none,false,false⟩:=by kernel_rfl
@[simp] theorem T_14:T 14=some ⟨.struct #[⟨ "msg",9,0,false, "", "runtime",0⟩,⟨ "addr",12,1,false, "", "runtime",16⟩],2,24,.agg [.str gI,.int .u64 0],.agg #[.string gI,.int .u64 0],none,false,false⟩:=by kernel_rfl
@[simp] theorem T_15:T 15=some ⟨.pointer 374,1,8,.nilP,.pointer none,none,false,false⟩:=by kernel_rfl
@[simp] theorem T_16:T 16=some ⟨.pointer 377,1,8,.nilP,.pointer none,none,false,false⟩:=by kernel_rfl
@[simp] theorem T_17:T 17=some ⟨.pointer 385,1,8,.nilP,.pointer none,none,false,false⟩:=by kernel_rfl
@[simp] theorem T_18:T 18=some ⟨.struct #[⟨ "typ",17,0,false, "", "internal/runtime/maps",0⟩],1,8,.agg [.nilP],.agg #[.pointer none],none,false,false⟩:=by kernel_rfl
@[simp] theorem T_19:T 19=some ⟨.struct #[⟨ "typ",17,0,false, "", "internal/runtime/maps",0⟩],1,8,.agg [.nilP],.agg #[.pointer none],none,false,false⟩:=by kernel_rfl
@[simp] theorem T_21:T 21=some ⟨.int .i32,1,4,.int .i32 0,.int .i32 0,some (.int .i32),false,false⟩:=by kernel_rfl
@[simp] theorem T_22:T 22=some ⟨.slice 9,1,24,.nilS,.slice none 0 0,none,false,false⟩:=by kernel_rfl
@[simp] theorem T_23:T 23=some ⟨.slice 46,1,24,.nilS,.slice none 0 0,none,false,false⟩:=by kernel_rfl
@[simp] theorem T_24:T 24=some ⟨.struct #[⟨ "Name",9,0,false, "", "",0⟩,⟨ "Attrs",22,1,false, "", "",16⟩,⟨ "Rows",23,2,false, "", "",40⟩],3,64,.agg [.str gI,.nilS,.nilS],.agg #[.string gI,.slice none 0 0,.slice none 0 0],none,true,false⟩:=by kernel_rfl
@[simp] theorem T_25:T 25=some ⟨.struct #[⟨ "Name",9,0,false, "", "",0⟩,⟨ "Attrs",22,1,false, "", "",16⟩,⟨ "Rows",23,2,false, "", "",40⟩],3,64,.agg [.str gI,.nilS,.nilS],.agg #[.string gI,.slice none 0 0,.slice none 0 0],none,true,false⟩:=by kernel_rfl
@[simp] theorem T_26:T 26=some ⟨.func #[] #[4] false,1,8,.nilFn,.nilFunc,none,false,false⟩:=by kernel_rfl
@[simp] theorem T_27:T 27=some ⟨.func #[25] #[4] false,1,8,.nilFn,.nilFunc,none,false,false⟩:=by kernel_rfl
@[simp] theorem T_28:T 28=some ⟨.slice 50,1,24,.nilS,.slice none 0 0,none,false,false⟩:=by kernel_rfl
@[simp] theorem T_29:T 29=some ⟨.int .i64,1,8,.int .i64 0,.int .i64 0,some (.int .i64),false,false⟩:=by kernel_rfl
@[simp] theorem T_31:T 31=some ⟨.func #[25,25] #[28,29] false,1,8,.nilFn,.nilFunc,none,false,false⟩:=by kernel_rfl
@[simp] theorem T_32:T 32=some ⟨.func #[28,28] #[4] false,1,8,.nilFn,.nilFunc,none,false,false⟩:=by kernel_rfl
@[simp] theorem T_33:T 33=some ⟨.func #[25,25] #[4] false,1,8,.nilFn,.nilFunc,none,false,false⟩:=by kernel_rfl
@[simp] theorem T_34:T 34=some ⟨.slice 131,1,24,.nilS,.slice none 0 0,none,false,false⟩:=by kernel_rfl
@[simp] theorem T_35:T 35=some ⟨.struct #[⟨ "Attrs",5,0,false, "", "",0⟩,⟨ "Gap",5,1,false, "", "",1⟩,⟨ "Rows",34,2,false, "", "",8⟩],3,32,.agg [.int .u8 0,.int .u8 0,.nilS],.agg #[.int .u8 0,.int .u8 0,.slice none 0 0],none,true,false⟩:=by kernel_rfl
@[simp] theorem T_36:T 36=some ⟨.struct #[⟨ "Attrs",5,0,false, "", "",0⟩,⟨ "Gap",5,1,false, "", "",1⟩,⟨ "Rows",34,2,false, "", "",8⟩],3,32,.agg [.int .u8 0,.int .u8 0,.nilS],.agg #[.int .u8 0,.int .u8 0,.slice none 0 0],none,true,false⟩:=by kernel_rfl
@[simp] theorem T_38:T 38=some ⟨.func #[36,3] #[25,4] false,1,8,.nilFn,.nilFunc,none,false,false⟩:=by kernel_rfl
@[simp] theorem T_39:T 39=some ⟨.pointer 105,1,8,.nilP,.pointer none,none,false,false⟩:=by kernel_rfl
@[simp] theorem T_41:T 41=some ⟨.func #[25] #[39,4] false,1,8,.nilFn,.nilFunc,none,false,false⟩:=by kernel_rfl
@[simp] theorem T_42:T 42=some ⟨.func #[39,9,28] #[29] false,1,8,.nilFn,.nilFunc,none,false,false⟩:=by kernel_rfl
@[simp] theorem T_43:T 43=some ⟨.func #[28] #[28] false,1,8,.nilFn,.nilFunc,none,false,false⟩:=by kernel_rfl
@[simp] theorem T_44:T 44=some ⟨.slice 48,1,24,.nilS,.slice none 0 0,none,false,false⟩:=by kernel_rfl
@[simp] theorem T_45:T 45=some ⟨.struct #[⟨ "ID",2,0,false, "", "",0⟩,⟨ "Values",44,1,false, "", "",8⟩],2,32,.agg [.int .i64 0,.nilS],.agg #[.int .i64 0,.slice none 0 0],none,true,false⟩:=by kernel_rfl
@[simp] theorem T_46:T 46=some ⟨.struct #[⟨ "ID",2,0,false, "", "",0⟩,⟨ "Values",44,1,false, "", "",8⟩],2,32,.agg [.int .i64 0,.nilS],.agg #[.int .i64 0,.slice none 0 0],none,true,false⟩:=by kernel_rfl
@[simp] theorem T_47:T 47=some ⟨.struct #[⟨ "Kind",3,0,false, "", "",0⟩,⟨ "Num",2,1,false, "", "",8⟩,⟨ "Str",9,2,false, "", "",16⟩],3,32,.agg [.int .i64 0,.int .i64 0,.str gI],.agg #[.int .i64 0,.int .i64 0,.string gI],none,true,false⟩:=by kernel_rfl
@[simp] theorem T_48:T 48=some ⟨.struct #[⟨ "Kind",3,0,false, "", "",0⟩,⟨ "Num",2,1,false, "", "",8⟩,⟨ "Str",9,2,false, "", "",16⟩],3,32,.agg [.int .i64 0,.int .i64 0,.str gI],.agg #[.int .i64 0,.int .i64 0,.string gI],none,true,false⟩:=by kernel_rfl
@[simp] theorem T_49:T 49=some ⟨.struct #[⟨ "Kind",3,0,false, "", "",0⟩,⟨ "Name",9,1,false, "", "",8⟩,⟨ "Table",25,2,false, "", "",24⟩,⟨ "Row",46,5,false, "", "",88⟩,⟨ "Attr",3,7,false, "", "",120⟩,⟨ "Value",48,8,false, "", "",128⟩],11,160,.agg [.int .i64 0,.str gI,.str gI,.nilS,.nilS,.int .i64 0,.nilS,.int .i64 0,.int .i64 0,.int .i64 0,.str gI],.agg #[.int .i64 0,.string gI,.string gI,.slice none 0 0,.slice none 0 0,.int .i64 0,.slice none 0 0,.int .i64 0,.int .i64 0,.int .i64 0,.string gI],none,true,false⟩:=by kernel_rfl
@[simp] theorem T_50:T 50=some ⟨.struct #[⟨ "Kind",3,0,false, "", "",0⟩,⟨ "Name",9,1,false, "", "",8⟩,⟨ "Table",25,2,false, "", "",24⟩,⟨ "Row",46,5,false, "", "",88⟩,⟨ "Attr",3,7,false, "", "",120⟩,⟨ "Value",48,8,false, "", "",128⟩],11,160,.agg [.int .i64 0,.str gI,.str gI,.nilS,.nilS,.int .i64 0,.nilS,.int .i64 0,.int .i64 0,.int .i64 0,.str gI],.agg #[.int .i64 0,.string gI,.string gI,.slice none 0 0,.slice none 0 0,.int .i64 0,.slice none 0 0,.int .i64 0,.int .i64 0,.int .i64 0,.string gI],none,true,false⟩:=by kernel_rfl
@[simp] theorem T_51:T 51=some ⟨.func #[25,28] #[25,4] false,1,8,.nilFn,.nilFunc,none,false,false⟩:=by kernel_rfl
@[simp] theorem T_52:T 52=some ⟨.func #[39,25,25,28] #[4] false,1,8,.nilFn,.nilFunc,none,false,false⟩:=by kernel_rfl
@[simp] theorem T_53:T 53=some ⟨.func #[] #[29] false,1,8,.nilFn,.nilFunc,none,false,false⟩:=by kernel_rfl
@[simp] theorem T_54:T 54=some ⟨.func #[36,28] #[4] false,1,8,.nilFn,.nilFunc,none,false,false⟩:=by kernel_rfl
@[simp] theorem T_55:T 55=some ⟨.func #[39,25,25] #[4] false,1,8,.nilFn,.nilFunc,none,false,false⟩:=by kernel_rfl
@[simp] theorem T_56:T 56=some ⟨.func #[36,36] #[4] false,1,8,.nilFn,.nilFunc,none,false,false⟩:=by kernel_rfl
@[simp] theorem T_57:T 57=some ⟨.func #[2,2,2] #[46] false,1,8,.nilFn,.nilFunc,none,false,false⟩:=by kernel_rfl
@[simp] theorem T_58:T 58=some ⟨.int .u32,1,4,.int .u32 0,.int .u32 0,some (.int .u32),false,false⟩:=by kernel_rfl
@[simp] theorem T_59:T 59=some ⟨.int .u32,1,4,.int .u32 0,.int .u32 0,some (.int .u32),false,false⟩:=by kernel_rfl
@[simp] theorem T_60:T 60=some ⟨.struct #[⟨ "Lhs",59,0,false, "", "",0⟩,⟨ "Rhs",59,1,false, "", "",4⟩],2,8,.agg [.int .u32 0,.int .u32 0],.agg #[.int .u32 0,.int .u32 0],none,true,false⟩:=by kernel_rfl
@[simp] theorem T_61:T 61=some ⟨.struct #[⟨ "Lhs",59,0,false, "", "",0⟩,⟨ "Rhs",59,1,false, "", "",4⟩],2,8,.agg [.int .u32 0,.int .u32 0],.agg #[.int .u32 0,.int .u32 0],none,true,false⟩:=by kernel_rfl
@[simp] theorem T_62:T 62=some ⟨.struct #[⟨ "Lhs",59,0,false, "", "",0⟩,⟨ "Rhs",59,1,false, "", "",4⟩],2,8,.agg [.int .u32 0,.int .u32 0],.agg #[.int .u32 0,.int .u32 0],none,true,false⟩:=by kernel_rfl
@[simp] theorem T_63:T 63=some ⟨.slice 3,1,24,.nilS,.slice none 0 0,none,false,false⟩:=by kernel_rfl
@[simp] theorem T_64:T 64=some ⟨.struct #[⟨ "From",9,0,false, "", "",0⟩,⟨ "Lhs",63,1,false, "", "",16⟩,⟨ "To",9,2,false, "", "",40⟩,⟨ "Rhs",63,3,false, "", "",56⟩],4,80,.agg [.str gI,.nilS,.str gI,.nilS],.agg #[.string gI,.slice none 0 0,.string gI,.slice none 0 0],none,true,false⟩:=by kernel_rfl
@[simp] theorem T_65:T 65=some ⟨.struct #[⟨ "From",9,0,false, "", "",0⟩,⟨ "Lhs",63,1,false, "", "",16⟩,⟨ "To",9,2,false, "", "",40⟩,⟨ "Rhs",63,3,false, "", "",56⟩],4,80,.agg [.str gI,.nilS,.str gI,.nilS],.agg #[.string gI,.slice none 0 0,.string gI,.slice none 0 0],none,true,false⟩:=by kernel_rfl
@[simp] theorem T_66:T 66=some ⟨.slice 314,1,24,.nilS,.slice none 0 0,none,false,false⟩:=by kernel_rfl
@[simp] theorem T_67:T 67=some ⟨.struct #[⟨ "Lhs",63,0,false, "", "",0⟩,⟨ "Rhs",3,1,false, "", "",24⟩,⟨ "Pattern",66,2,false, "", "",32⟩],3,56,.agg [.nilS,.int .i64 0,.nilS],.agg #[.slice none 0 0,.int .i64 0,.slice none 0 0],none,true,false⟩:=by kernel_rfl
@[simp] theorem T_68:T 68=some ⟨.struct #[⟨ "Lhs",63,0,false, "", "",0⟩,⟨ "Rhs",3,1,false, "", "",24⟩,⟨ "Pattern",66,2,false, "", "",32⟩],3,56,.agg [.nilS,.int .i64 0,.nilS],.agg #[.slice none 0 0,.int .i64 0,.slice none 0 0],none,true,false⟩:=by kernel_rfl
@[simp] theorem T_69:T 69=some ⟨.struct #[⟨ "Lhs",63,0,false, "", "",0⟩,⟨ "Rhs",63,1,false, "", "",24⟩],2,48,.agg [.nilS,.nilS],.agg #[.slice none 0 0,.slice none 0 0],none,true,false⟩:=by kernel_rfl
@[simp] theorem T_70:T 70=some ⟨.struct #[⟨ "Lhs",63,0,false, "", "",0⟩,⟨ "Rhs",63,1,false, "", "",24⟩],2,48,.agg [.nilS,.nilS],.agg #[.slice none 0 0,.slice none 0 0],none,true,false⟩:=by kernel_rfl
@[simp] theorem T_71:T 71=some ⟨.slice 307,1,24,.nilS,.slice none 0 0,none,false,false⟩:=by kernel_rfl
@[simp] theorem T_72:T 72=some ⟨.struct #[⟨ "Vars",3,0,false, "", "",0⟩,⟨ "Atoms",71,1,false, "", "",8⟩],2,32,.agg [.int .i64 0,.nilS],.agg #[.int .i64 0,.slice none 0 0],none,true,false⟩:=by kernel_rfl
@[simp] theorem T_73:T 73=some ⟨.struct #[⟨ "Vars",3,0,false, "", "",0⟩,⟨ "Atoms",71,1,false, "", "",8⟩],2,32,.agg [.int .i64 0,.nilS],.agg #[.int .i64 0,.slice none 0 0],none,true,false⟩:=by kernel_rfl
@[simp] theorem T_74:T 74=some ⟨.struct #[⟨ "Name",9,0,false, "", "",0⟩,⟨ "Table",9,1,false, "", "",16⟩,⟨ "Kind",3,2,false, "", "",32⟩,⟨ "FD",61,3,false, "", "",40⟩,⟨ "MVD",62,5,false, "", "",48⟩,⟨ "IND",65,7,false, "", "",56⟩,⟨ "CFD",68,11,false, "", "",136⟩,⟨ "OD",70,14,false, "", "",192⟩,⟨ "Denial",73,16,false, "", "",240⟩],18,272,.agg [.str gI,.str gI,.int .i64 0,.int .u32 0,.int .u32 0,.int .u32 0,.int .u32 0,.str gI,.nilS,.str gI,.nilS,.nilS,.int .i64 0,.nilS,.nilS,.nilS,.int .i64 0,.nilS],.agg #[.string gI,.string gI,.int .i64 0,.int .u32 0,.int .u32 0,.int .u32 0,.int .u32 0,.string gI,.slice none 0 0,.string gI,.slice none 0 0,.slice none 0 0,.int .i64 0,.slice none 0 0,.slice none 0 0,.slice none 0 0,.int .i64 0,.slice none 0 0],none,true,false⟩:=by kernel_rfl
@[simp] theorem T_75:T 75=some ⟨.struct #[⟨ "Name",9,0,false, "", "",0⟩,⟨ "Table",9,1,false, "", "",16⟩,⟨ "Kind",3,2,false, "", "",32⟩,⟨ "FD",61,3,false, "", "",40⟩,⟨ "MVD",62,5,false, "", "",48⟩,⟨ "IND",65,7,false, "", "",56⟩,⟨ "CFD",68,11,false, "", "",136⟩,⟨ "OD",70,14,false, "", "",192⟩,⟨ "Denial",73,16,false, "", "",240⟩],18,272,.agg [.str gI,.str gI,.int .i64 0,.int .u32 0,.int .u32 0,.int .u32 0,.int .u32 0,.str gI,.nilS,.str gI,.nilS,.nilS,.int .i64 0,.nilS,.nilS,.nilS,.int .i64 0,.nilS],.agg #[.string gI,.string gI,.int .i64 0,.int .u32 0,.int .u32 0,.int .u32 0,.int .u32 0,.string gI,.slice none 0 0,.string gI,.slice none 0 0,.slice none 0 0,.int .i64 0,.slice none 0 0,.slice none 0 0,.slice none 0 0,.int .i64 0,.slice none 0 0],none,true,false⟩:=by kernel_rfl
@[simp] theorem T_77:T 77=some ⟨.func #[25,78,3] #[3,3,29] false,1,8,.nilFn,.nilFunc,none,false,false⟩:=by kernel_rfl
@[simp] theorem T_78:T 78=some ⟨.slice 75,1,24,.nilS,.slice none 0 0,none,false,false⟩:=by kernel_rfl
@[simp] theorem T_79:T 79=some ⟨.func #[25] #[29] false,1,8,.nilFn,.nilFunc,none,false,false⟩:=by kernel_rfl
@[simp] theorem T_80:T 80=some ⟨.func #[22,22] #[4] false,1,8,.nilFn,.nilFunc,none,false,false⟩:=by kernel_rfl
@[simp] theorem T_82:T 82=some ⟨.func #[25,2] #[3,4] false,1,8,.nilFn,.nilFunc,none,false,false⟩:=by kernel_rfl
@[simp] theorem T_83:T 83=some ⟨.func #[46] #[46] false,1,8,.nilFn,.nilFunc,none,false,false⟩:=by kernel_rfl
@[simp] theorem T_84:T 84=some ⟨.func #[103] #[28] true,1,8,.nilFn,.nilFunc,none,false,false⟩:=by kernel_rfl
@[simp] theorem T_85:T 85=some ⟨.func #[48,48] #[3] false,1,8,.nilFn,.nilFunc,none,false,false⟩:=by kernel_rfl
@[simp] theorem T_86:T 86=some ⟨.func #[50,50] #[4] false,1,8,.nilFn,.nilFunc,none,false,false⟩:=by kernel_rfl
@[simp] theorem T_87:T 87=some ⟨.func #[36,3] #[25] false,1,8,.nilFn,.nilFunc,none,false,false⟩:=by kernel_rfl
@[simp] theorem T_88:T 88=some ⟨.func #[] #[39] false,1,8,.nilFn,.nilFunc,none,false,false⟩:=by kernel_rfl
@[simp] theorem T_90:T 90=some ⟨.func #[39,9] #[25,29] false,1,8,.nilFn,.nilFunc,none,false,false⟩:=by kernel_rfl
@[simp] theorem T_91:T 91=some ⟨.func #[25,28] #[4] false,1,8,.nilFn,.nilFunc,none,false,false⟩:=by kernel_rfl
@[simp] theorem T_92:T 92=some ⟨.func #[44,44] #[4] false,1,8,.nilFn,.nilFunc,none,false,false⟩:=by kernel_rfl
@[simp] theorem T_93:T 93=some ⟨.func #[25,46] #[25,29] false,1,8,.nilFn,.nilFunc,none,false,false⟩:=by kernel_rfl
@[simp] theorem T_94:T 94=some ⟨.func #[25,2] #[25,29] false,1,8,.nilFn,.nilFunc,none,false,false⟩:=by kernel_rfl
@[simp] theorem T_95:T 95=some ⟨.func #[25,97,48] #[25,29] false,1,8,.nilFn,.nilFunc,none,false,false⟩:=by kernel_rfl
@[simp] theorem T_96:T 96=some ⟨.struct #[⟨ "ID",2,0,false, "", "",0⟩,⟨ "Attr",3,1,false, "", "",8⟩],2,16,.agg [.int .i64 0,.int .i64 0],.agg #[.int .i64 0,.int .i64 0],none,true,false⟩:=by kernel_rfl
@[simp] theorem T_97:T 97=some ⟨.struct #[⟨ "ID",2,0,false, "", "",0⟩,⟨ "Attr",3,1,false, "", "",8⟩],2,16,.agg [.int .i64 0,.int .i64 0],.agg #[.int .i64 0,.int .i64 0],none,true,false⟩:=by kernel_rfl
@[simp] theorem T_98:T 98=some ⟨.slice 25,1,24,.nilS,.slice none 0 0,none,false,false⟩:=by kernel_rfl
@[simp] theorem T_99:T 99=some ⟨.struct #[⟨ "Tables",98,0,false, "", "",0⟩],1,24,.agg [.nilS],.agg #[.slice none 0 0],none,true,false⟩:=by kernel_rfl
@[simp] theorem T_100:T 100=some ⟨.struct #[⟨ "Tables",98,0,false, "", "",0⟩],1,24,.agg [.nilS],.agg #[.slice none 0 0],none,true,false⟩:=by kernel_rfl
@[simp] theorem T_101:T 101=some ⟨.func #[] #[100] false,1,8,.nilFn,.nilFunc,none,false,false⟩:=by kernel_rfl
@[simp] theorem T_102:T 102=some ⟨.func #[] #[28] false,1,8,.nilFn,.nilFunc,none,false,false⟩:=by kernel_rfl
@[simp] theorem T_103:T 103=some ⟨.slice 28,1,24,.nilS,.slice none 0 0,none,false,false⟩:=by kernel_rfl
@[simp] theorem T_104:T 104=some ⟨.struct #[⟨ "db",100,0,false, "", "dross/store",0⟩,⟨ "done",103,1,false, "", "dross/store",24⟩,⟨ "undone",103,2,false, "", "dross/store",48⟩,⟨ "open",4,3,false, "", "dross/store",72⟩,⟨ "now",28,4,false, "", "dross/store",80⟩],5,104,.agg [.nilS,.nilS,.nilS,.bool false,.nilS],.agg #[.slice none 0 0,.slice none 0 0,.slice none 0 0,.bool false,.slice none 0 0],none,true,false⟩:=by kernel_rfl
@[simp] theorem T_105:T 105=some ⟨.struct #[⟨ "db",100,0,false, "", "dross/store",0⟩,⟨ "done",103,1,false, "", "dross/store",24⟩,⟨ "undone",103,2,false, "", "dross/store",48⟩,⟨ "open",4,3,false, "", "dross/store",72⟩,⟨ "now",28,4,false, "", "dross/store",80⟩],5,104,.agg [.nilS,.nilS,.nilS,.bool false,.nilS],.agg #[.slice none 0 0,.slice none 0 0,.slice none 0 0,.bool false,.slice none 0 0],none,true,false⟩:=by kernel_rfl
@[simp] theorem T_106:T 106=some ⟨.func #[28] #[] false,1,8,.nilFn,.nilFunc,none,false,false⟩:=by kernel_rfl
@[simp] theorem T_107:T 107=some ⟨.slice 2,1,24,.nilS,.slice none 0 0,none,false,false⟩:=by kernel_rfl
@[simp] theorem T_108:T 108=some ⟨.slice 249,1,24,.nilS,.slice none 0 0,none,false,false⟩:=by kernel_rfl
@[simp] theorem T_109:T 109=some ⟨.struct #[⟨ "Deleted",107,0,false, "", "",0⟩,⟨ "Weight",2,1,false, "", "",24⟩,⟨ "Proof",108,2,false, "", "",32⟩],3,56,.agg [.nilS,.int .i64 0,.nilS],.agg #[.slice none 0 0,.int .i64 0,.slice none 0 0],none,true,false⟩:=by kernel_rfl
@[simp] theorem T_110:T 110=some ⟨.struct #[⟨ "Deleted",107,0,false, "", "",0⟩,⟨ "Weight",2,1,false, "", "",24⟩,⟨ "Proof",108,2,false, "", "",32⟩],3,56,.agg [.nilS,.int .i64 0,.nilS],.agg #[.slice none 0 0,.int .i64 0,.slice none 0 0],none,true,false⟩:=by kernel_rfl
@[simp] theorem T_112:T 112=some ⟨.func #[25,78,107,3] #[110,29] false,1,8,.nilFn,.nilFunc,none,false,false⟩:=by kernel_rfl
@[simp] theorem T_113:T 113=some ⟨.slice 61,1,24,.nilS,.slice none 0 0,none,false,false⟩:=by kernel_rfl
@[simp] theorem T_114:T 114=some ⟨.slice 97,1,24,.nilS,.slice none 0 0,none,false,false⟩:=by kernel_rfl
@[simp] theorem T_115:T 115=some ⟨.slice 114,1,24,.nilS,.slice none 0 0,none,false,false⟩:=by kernel_rfl
@[simp] theorem T_116:T 116=some ⟨.struct #[⟨ "Cells",114,0,false, "", "",0⟩,⟨ "Table",25,1,false, "", "",24⟩,⟨ "Cores",115,4,false, "", "",88⟩,⟨ "Proof",108,5,false, "", "",112⟩],6,136,.agg [.nilS,.str gI,.nilS,.nilS,.nilS,.nilS],.agg #[.slice none 0 0,.string gI,.slice none 0 0,.slice none 0 0,.slice none 0 0,.slice none 0 0],none,true,false⟩:=by kernel_rfl
@[simp] theorem T_117:T 117=some ⟨.struct #[⟨ "Cells",114,0,false, "", "",0⟩,⟨ "Table",25,1,false, "", "",24⟩,⟨ "Cores",115,4,false, "", "",88⟩,⟨ "Proof",108,5,false, "", "",112⟩],6,136,.agg [.nilS,.str gI,.nilS,.nilS,.nilS,.nilS],.agg #[.slice none 0 0,.string gI,.slice none 0 0,.slice none 0 0,.slice none 0 0,.slice none 0 0],none,true,false⟩:=by kernel_rfl
@[simp] theorem T_119:T 119=some ⟨.func #[25,113,3] #[117,29] false,1,8,.nilFn,.nilFunc,none,false,false⟩:=by kernel_rfl
@[simp] theorem T_120:T 120=some ⟨.func #[9] #[4] false,1,8,.nilFn,.nilFunc,none,false,false⟩:=by kernel_rfl
@[simp] theorem T_121:T 121=some ⟨.func #[22,9] #[4] false,1,8,.nilFn,.nilFunc,none,false,false⟩:=by kernel_rfl
@[simp] theorem T_122:T 122=some ⟨.func #[44] #[4] false,1,8,.nilFn,.nilFunc,none,false,false⟩:=by kernel_rfl
@[simp] theorem T_123:T 123=some ⟨.func #[23,124] #[3] false,1,8,.nilFn,.nilFunc,none,false,false⟩:=by kernel_rfl
@[simp] theorem T_124:T 124=some ⟨.func #[46] #[4] false,1,8,.nilFn,.nilFunc,none,false,false⟩:=by kernel_rfl
@[simp] theorem T_125:T 125=some ⟨.func #[44] #[44] false,1,8,.nilFn,.nilFunc,none,false,false⟩:=by kernel_rfl
@[simp] theorem T_126:T 126=some ⟨.func #[28,3] #[28] false,1,8,.nilFn,.nilFunc,none,false,false⟩:=by kernel_rfl
@[simp] theorem T_127:T 127=some ⟨.func #[22] #[4] false,1,8,.nilFn,.nilFunc,none,false,false⟩:=by kernel_rfl
@[simp] theorem T_128:T 128=some ⟨.func #[2,2] #[3] false,1,8,.nilFn,.nilFunc,none,false,false⟩:=by kernel_rfl
@[simp] theorem T_129:T 129=some ⟨.func #[9,9] #[3] false,1,8,.nilFn,.nilFunc,none,false,false⟩:=by kernel_rfl
@[simp] theorem T_130:T 130=some ⟨.func #[46,46] #[4] false,1,8,.nilFn,.nilFunc,none,false,false⟩:=by kernel_rfl
@[simp] theorem T_131:T 131=some ⟨.slice 5,1,24,.nilS,.slice none 0 0,none,false,false⟩:=by kernel_rfl
@[simp] theorem T_132:T 132=some ⟨.func #[5] #[48] false,1,8,.nilFn,.nilFunc,none,false,false⟩:=by kernel_rfl
@[simp] theorem T_133:T 133=some ⟨.func #[50] #[29] false,1,8,.nilFn,.nilFunc,none,false,false⟩:=by kernel_rfl
@[simp] theorem T_134:T 134=some ⟨.func #[25] #[25] false,1,8,.nilFn,.nilFunc,none,false,false⟩:=by kernel_rfl
@[simp] theorem T_135:T 135=some ⟨.func #[] #[28,29] false,1,8,.nilFn,.nilFunc,none,false,false⟩:=by kernel_rfl
@[simp] theorem T_136:T 136=some ⟨.func #[9,46] #[29] false,1,8,.nilFn,.nilFunc,none,false,false⟩:=by kernel_rfl
@[simp] theorem T_137:T 137=some ⟨.func #[9,2] #[29] false,1,8,.nilFn,.nilFunc,none,false,false⟩:=by kernel_rfl
@[simp] theorem T_138:T 138=some ⟨.func #[9,97,48] #[29] false,1,8,.nilFn,.nilFunc,none,false,false⟩:=by kernel_rfl
@[simp] theorem T_139:T 139=some ⟨.func #[44,44] #[3] false,1,8,.nilFn,.nilFunc,none,false,false⟩:=by kernel_rfl
@[simp] theorem T_140:T 140=some ⟨.func #[25,23] #[25] false,1,8,.nilFn,.nilFunc,none,false,false⟩:=by kernel_rfl
@[simp] theorem T_141:T 141=some ⟨.func #[48] #[4] false,1,8,.nilFn,.nilFunc,none,false,false⟩:=by kernel_rfl
@[simp] theorem T_142:T 142=some ⟨.func #[177] #[] false,1,8,.nilFn,.nilFunc,none,false,false⟩:=by kernel_rfl
@[simp] theorem T_143:T 143=some ⟨.func #[177] #[] false,1,8,.nilFn,.nilFunc,none,false,false⟩:=by kernel_rfl
@[simp] theorem T_144:T 144=some ⟨.func #[28] #[143] false,1,8,.nilFn,.nilFunc,none,false,false⟩:=by kernel_rfl
@[simp] theorem T_145:T 145=some ⟨.func #[98] #[98] false,1,8,.nilFn,.nilFunc,none,false,false⟩:=by kernel_rfl
@[simp] theorem T_147:T 147=some ⟨.func #[100,50] #[100,29] false,1,8,.nilFn,.nilFunc,none,false,false⟩:=by kernel_rfl
@[simp] theorem T_148:T 148=some ⟨.func #[50] #[50] false,1,8,.nilFn,.nilFunc,none,false,false⟩:=by kernel_rfl
@[simp] theorem T_149:T 149=some ⟨.slice 63,1,24,.nilS,.slice none 0 0,none,false,false⟩:=by kernel_rfl
@[simp] theorem T_150:T 150=some ⟨.struct #[⟨ "Weights",107,0,false, "", "",0⟩,⟨ "Edges",149,1,false, "", "",24⟩],2,48,.agg [.nilS,.nilS],.agg #[.slice none 0 0,.slice none 0 0],none,true,false⟩:=by kernel_rfl
@[simp] theorem T_151:T 151=some ⟨.struct #[⟨ "Weights",107,0,false, "", "",0⟩,⟨ "Edges",149,1,false, "", "",24⟩],2,48,.agg [.nilS,.nilS],.agg #[.slice none 0 0,.slice none 0 0],none,true,false⟩:=by kernel_rfl
@[simp] theorem T_153:T 153=some ⟨.func #[25,78,107] #[151,29] false,1,8,.nilFn,.nilFunc,none,false,false⟩:=by kernel_rfl
@[simp] theorem T_155:T 155=some ⟨.func #[151,3] #[63,2,29] false,1,8,.nilFn,.nilFunc,none,false,false⟩:=by kernel_rfl
@[simp] theorem T_157:T 157=some ⟨.func #[151,2,3] #[108,29] false,1,8,.nilFn,.nilFunc,none,false,false⟩:=by kernel_rfl
@[simp] theorem T_158:T 158=some ⟨.func #[25,113,114] #[29] false,1,8,.nilFn,.nilFunc,none,false,false⟩:=by kernel_rfl
@[simp] theorem T_160:T 160=some ⟨.func #[115] #[151,114] false,1,8,.nilFn,.nilFunc,none,false,false⟩:=by kernel_rfl
@[simp] theorem T_161:T 161=some ⟨.func #[25,113,114] #[4] false,1,8,.nilFn,.nilFunc,none,false,false⟩:=by kernel_rfl
@[simp] theorem T_162:T 162=some ⟨.func #[25,113,114] #[25,29] false,1,8,.nilFn,.nilFunc,none,false,false⟩:=by kernel_rfl
@[simp] theorem T_163:T 163=some ⟨.func #[25,113,114] #[114] false,1,8,.nilFn,.nilFunc,none,false,false⟩:=by kernel_rfl
@[simp] theorem T_164:T 164=some ⟨.func #[25,114] #[114] false,1,8,.nilFn,.nilFunc,none,false,false⟩:=by kernel_rfl
@[simp] theorem T_165:T 165=some ⟨.func #[115,166] #[] false,1,8,.nilFn,.nilFunc,none,false,false⟩:=by kernel_rfl
@[simp] theorem T_166:T 166=some ⟨.func #[114,114] #[3] false,1,8,.nilFn,.nilFunc,none,false,false⟩:=by kernel_rfl
@[simp] theorem T_167:T 167=some ⟨.func #[22,9] #[3] false,1,8,.nilFn,.nilFunc,none,false,false⟩:=by kernel_rfl
@[simp] theorem T_168:T 168=some ⟨.func #[44,141] #[4] false,1,8,.nilFn,.nilFunc,none,false,false⟩:=by kernel_rfl
@[simp] theorem T_169:T 169=some ⟨.func #[5] #[4] false,1,8,.nilFn,.nilFunc,none,false,false⟩:=by kernel_rfl
@[simp] theorem T_170:T 170=some ⟨.func #[22] #[22] false,1,8,.nilFn,.nilFunc,none,false,false⟩:=by kernel_rfl
@[simp] theorem T_171:T 171=some ⟨.func #[23,2,172] #[3,4] false,1,8,.nilFn,.nilFunc,none,false,false⟩:=by kernel_rfl
@[simp] theorem T_172:T 172=some ⟨.func #[46,2] #[3] false,1,8,.nilFn,.nilFunc,none,false,false⟩:=by kernel_rfl
@[simp] theorem T_173:T 173=some ⟨.func #[23,3,23] #[23] true,1,8,.nilFn,.nilFunc,none,false,false⟩:=by kernel_rfl
@[simp] theorem T_174:T 174=some ⟨.func #[225] #[23] true,1,8,.nilFn,.nilFunc,none,false,false⟩:=by kernel_rfl
@[simp] theorem T_176:T 176=some ⟨.func #[9,2] #[46,29] false,1,8,.nilFn,.nilFunc,none,false,false⟩:=by kernel_rfl
@[simp] theorem T_177:T 177=some ⟨.func #[3,50] #[4] false,1,8,.nilFn,.nilFunc,none,false,false⟩:=by kernel_rfl
@[simp] theorem T_178:T 178=some ⟨.func #[100,25] #[29] false,1,8,.nilFn,.nilFunc,none,false,false⟩:=by kernel_rfl
@[simp] theorem T_179:T 179=some ⟨.func #[100,9] #[3] false,1,8,.nilFn,.nilFunc,none,false,false⟩:=by kernel_rfl
@[simp] theorem T_180:T 180=some ⟨.slice 107,1,24,.nilS,.slice none 0 0,none,false,false⟩:=by kernel_rfl
@[simp] theorem T_181:T 181=some ⟨.struct #[⟨ "Vertices",107,0,false, "", "",0⟩,⟨ "Edges",180,1,false, "", "",24⟩],2,48,.agg [.nilS,.nilS],.agg #[.slice none 0 0,.slice none 0 0],none,true,false⟩:=by kernel_rfl
@[simp] theorem T_182:T 182=some ⟨.struct #[⟨ "Vertices",107,0,false, "", "",0⟩,⟨ "Edges",180,1,false, "", "",24⟩],2,48,.agg [.nilS,.nilS],.agg #[.slice none 0 0,.slice none 0 0],none,true,false⟩:=by kernel_rfl
@[simp] theorem T_184:T 184=some ⟨.func #[25,78] #[182,29] false,1,8,.nilFn,.nilFunc,none,false,false⟩:=by kernel_rfl
@[simp] theorem T_185:T 185=some ⟨.func #[107] #[107] false,1,8,.nilFn,.nilFunc,none,false,false⟩:=by kernel_rfl
@[simp] theorem T_186:T 186=some ⟨.func #[107,2] #[3,4] false,1,8,.nilFn,.nilFunc,none,false,false⟩:=by kernel_rfl
@[simp] theorem T_187:T 187=some ⟨.func #[151] #[29] false,1,8,.nilFn,.nilFunc,none,false,false⟩:=by kernel_rfl
@[simp] theorem T_189:T 189=some ⟨.func #[151] #[63,29] false,1,8,.nilFn,.nilFunc,none,false,false⟩:=by kernel_rfl
@[simp] theorem T_191:T 191=some ⟨.func #[151,63] #[2,29] false,1,8,.nilFn,.nilFunc,none,false,false⟩:=by kernel_rfl
@[simp] theorem T_192:T 192=some ⟨.pointer 194,1,8,.nilP,.pointer none,none,false,false⟩:=by kernel_rfl
@[simp] theorem T_193:T 193=some ⟨.struct #[⟨ "l",63,0,false, "", "dross/hitset",0⟩,⟨ "weight",2,1,false, "", "dross/hitset",24⟩],2,32,.agg [.nilS,.int .i64 0],.agg #[.slice none 0 0,.int .i64 0],none,true,false⟩:=by kernel_rfl
@[simp] theorem T_194:T 194=some ⟨.struct #[⟨ "l",63,0,false, "", "dross/hitset",0⟩,⟨ "weight",2,1,false, "", "dross/hitset",24⟩],2,32,.agg [.nilS,.int .i64 0],.agg #[.slice none 0 0,.int .i64 0],none,true,false⟩:=by kernel_rfl
@[simp] theorem T_195:T 195=some ⟨.pointer 243,1,8,.nilP,.pointer none,none,false,false⟩:=by kernel_rfl
@[simp] theorem T_196:T 196=some ⟨.func #[151,3] #[195] false,1,8,.nilFn,.nilFunc,none,false,false⟩:=by kernel_rfl
@[simp] theorem T_197:T 197=some ⟨.func #[192,2] #[4] false,1,8,.nilFn,.nilFunc,none,false,false⟩:=by kernel_rfl
@[simp] theorem T_198:T 198=some ⟨.func #[2] #[108,29] false,1,8,.nilFn,.nilFunc,none,false,false⟩:=by kernel_rfl
@[simp] theorem T_199:T 199=some ⟨.func #[3,113] #[29] false,1,8,.nilFn,.nilFunc,none,false,false⟩:=by kernel_rfl
@[simp] theorem T_200:T 200=some ⟨.func #[114] #[4] false,1,8,.nilFn,.nilFunc,none,false,false⟩:=by kernel_rfl
@[simp] theorem T_201:T 201=some ⟨.func #[115] #[114] true,1,8,.nilFn,.nilFunc,none,false,false⟩:=by kernel_rfl
@[simp] theorem T_202:T 202=some ⟨.func #[114,203] #[] false,1,8,.nilFn,.nilFunc,none,false,false⟩:=by kernel_rfl
@[simp] theorem T_203:T 203=some ⟨.func #[97,97] #[3] false,1,8,.nilFn,.nilFunc,none,false,false⟩:=by kernel_rfl
@[simp] theorem T_204:T 204=some ⟨.func #[114] #[114] false,1,8,.nilFn,.nilFunc,none,false,false⟩:=by kernel_rfl
@[simp] theorem T_205:T 205=some ⟨.func #[114,97,203] #[3,4] false,1,8,.nilFn,.nilFunc,none,false,false⟩:=by kernel_rfl
@[simp] theorem T_206:T 206=some ⟨.pointer 214,1,8,.nilP,.pointer none,none,false,false⟩:=by kernel_rfl
@[simp] theorem T_207:T 207=some ⟨.func #[25,114] #[206] false,1,8,.nilFn,.nilFunc,none,false,false⟩:=by kernel_rfl
@[simp] theorem T_208:T 208=some ⟨.func #[3,113] #[4] false,1,8,.nilFn,.nilFunc,none,false,false⟩:=by kernel_rfl
@[simp] theorem T_209:T 209=some ⟨.map 2 4,1,8,.nilM,.map none,none,false,false⟩:=by kernel_rfl
@[simp] theorem T_210:T 210=some ⟨.map 3 48,1,8,.nilM,.map none,none,false,false⟩:=by kernel_rfl
@[simp] theorem T_211:T 211=some ⟨.func #[3] #[3] false,1,8,.nilFn,.nilFunc,none,false,false⟩:=by kernel_rfl
@[simp] theorem T_212:T 212=some ⟨.slice 215,1,24,.nilS,.slice none 0 0,none,false,false⟩:=by kernel_rfl
@[simp] theorem T_213:T 213=some ⟨.struct #[⟨ "n",3,0,false, "", "dross/update",0⟩,⟨ "parent",63,1,false, "", "dross/update",8⟩,⟨ "known",212,2,false, "", "dross/update",32⟩],3,56,.agg [.int .i64 0,.nilS,.nilS],.agg #[.int .i64 0,.slice none 0 0,.slice none 0 0],none,true,false⟩:=by kernel_rfl
@[simp] theorem T_214:T 214=some ⟨.struct #[⟨ "n",3,0,false, "", "dross/update",0⟩,⟨ "parent",63,1,false, "", "dross/update",8⟩,⟨ "known",212,2,false, "", "dross/update",32⟩],3,56,.agg [.int .i64 0,.nilS,.nilS],.agg #[.int .i64 0,.slice none 0 0,.slice none 0 0],none,true,false⟩:=by kernel_rfl
@[simp] theorem T_215:T 215=some ⟨.pointer 48,1,8,.nilP,.pointer none,none,false,false⟩:=by kernel_rfl
@[simp] theorem T_217:T 217=some ⟨.func #[114,3] #[114] false,1,8,.nilFn,.nilFunc,none,false,false⟩:=by kernel_rfl
@[simp] theorem T_218:T 218=some ⟨.func #[115,3,3,3,166] #[] false,1,8,.nilFn,.nilFunc,none,false,false⟩:=by kernel_rfl
@[simp] theorem T_219:T 219=some ⟨.func #[220] #[3] false,1,8,.nilFn,.nilFunc,none,false,false⟩:=by kernel_rfl
@[simp] theorem T_220:T 220=some ⟨.int .u64,1,8,.int .u64 0,.int .u64 0,some (.int .u64),false,false⟩:=by kernel_rfl
@[simp] theorem T_221:T 221=some ⟨.func #[114,114,203] #[3] false,1,8,.nilFn,.nilFunc,none,false,false⟩:=by kernel_rfl
@[simp] theorem T_222:T 222=some ⟨.func #[44,141] #[3] false,1,8,.nilFn,.nilFunc,none,false,false⟩:=by kernel_rfl
@[simp] theorem T_223:T 223=some ⟨.func #[23,23] #[4] false,1,8,.nilFn,.nilFunc,none,false,false⟩:=by kernel_rfl
@[simp] theorem T_224:T 224=some ⟨.func #[23,3] #[] false,1,8,.nilFn,.nilFunc,none,false,false⟩:=by kernel_rfl
@[simp] theorem T_225:T 225=some ⟨.slice 23,1,24,.nilS,.slice none 0 0,none,false,false⟩:=by kernel_rfl
@[simp] theorem T_226:T 226=some ⟨.func #[23,3] #[23] false,1,8,.nilFn,.nilFunc,none,false,false⟩:=by kernel_rfl
@[simp] theorem T_227:T 227=some ⟨.func #[98,27] #[3] false,1,8,.nilFn,.nilFunc,none,false,false⟩:=by kernel_rfl
@[simp] theorem T_228:T 228=some ⟨.slice 73,1,24,.nilS,.slice none 0 0,none,false,false⟩:=by kernel_rfl
@[simp] theorem T_230:T 230=some ⟨.func #[25,75] #[228,29] false,1,8,.nilFn,.nilFunc,none,false,false⟩:=by kernel_rfl
@[simp] theorem T_232:T 232=some ⟨.func #[25,75] #[180,29] false,1,8,.nilFn,.nilFunc,none,false,false⟩:=by kernel_rfl
@[simp] theorem T_233:T 233=some ⟨.func #[180] #[180] false,1,8,.nilFn,.nilFunc,none,false,false⟩:=by kernel_rfl
@[simp] theorem T_234:T 234=some ⟨.func #[2,2] #[4] false,1,8,.nilFn,.nilFunc,none,false,false⟩:=by kernel_rfl
@[simp] theorem T_235:T 235=some ⟨.func #[2] #[4] false,1,8,.nilFn,.nilFunc,none,false,false⟩:=by kernel_rfl
@[simp] theorem T_236:T 236=some ⟨.func #[63,237] #[] false,1,8,.nilFn,.nilFunc,none,false,false⟩:=by kernel_rfl
@[simp] theorem T_237:T 237=some ⟨.func #[3,3] #[3] false,1,8,.nilFn,.nilFunc,none,false,false⟩:=by kernel_rfl
@[simp] theorem T_238:T 238=some ⟨.func #[63,239] #[4] false,1,8,.nilFn,.nilFunc,none,false,false⟩:=by kernel_rfl
@[simp] theorem T_239:T 239=some ⟨.func #[3] #[4] false,1,8,.nilFn,.nilFunc,none,false,false⟩:=by kernel_rfl
@[simp] theorem T_240:T 240=some ⟨.func #[63] #[] false,1,8,.nilFn,.nilFunc,none,false,false⟩:=by kernel_rfl
@[simp] theorem T_241:T 241=some ⟨.func #[63,3] #[4] false,1,8,.nilFn,.nilFunc,none,false,false⟩:=by kernel_rfl
@[simp] theorem T_242:T 242=some ⟨.struct #[⟨ "in",151,0,false, "", "dross/hitset",0⟩,⟨ "marks",63,2,false, "", "dross/hitset",48⟩,⟨ "left",3,3,false, "", "dross/hitset",72⟩],4,80,.agg [.nilS,.nilS,.nilS,.int .i64 0],.agg #[.slice none 0 0,.slice none 0 0,.slice none 0 0,.int .i64 0],none,true,false⟩:=by kernel_rfl
@[simp] theorem T_243:T 243=some ⟨.struct #[⟨ "in",151,0,false, "", "dross/hitset",0⟩,⟨ "marks",63,2,false, "", "dross/hitset",48⟩,⟨ "left",3,3,false, "", "dross/hitset",72⟩],4,80,.agg [.nilS,.nilS,.nilS,.int .i64 0],.agg #[.slice none 0 0,.slice none 0 0,.slice none 0 0,.int .i64 0],none,true,false⟩:=by kernel_rfl
@[simp] theorem T_244:T 244=some ⟨.slice 288,1,24,.nilS,.slice none 0 0,none,false,false⟩:=by kernel_rfl
@[simp] theorem T_246:T 246=some ⟨.func #[] #[244,2] false,1,8,.nilFn,.nilFunc,none,false,false⟩:=by kernel_rfl
@[simp] theorem T_247:T 247=some ⟨.func #[] #[3] false,1,8,.nilFn,.nilFunc,none,false,false⟩:=by kernel_rfl
@[simp] theorem T_248:T 248=some ⟨.struct #[⟨ "Vertex",3,0,false, "", "",0⟩,⟨ "Shares",244,1,false, "", "",8⟩],2,32,.agg [.int .i64 0,.nilS],.agg #[.int .i64 0,.slice none 0 0],none,true,false⟩:=by kernel_rfl
@[simp] theorem T_249:T 249=some ⟨.struct #[⟨ "Vertex",3,0,false, "", "",0⟩,⟨ "Shares",244,1,false, "", "",8⟩],2,32,.agg [.int .i64 0,.nilS],.agg #[.int .i64 0,.slice none 0 0],none,true,false⟩:=by kernel_rfl
@[simp] theorem T_250:T 250=some ⟨.func #[289] #[108] true,1,8,.nilFn,.nilFunc,none,false,false⟩:=by kernel_rfl
@[simp] theorem T_251:T 251=some ⟨.func #[114,3,3,3,203] #[] false,1,8,.nilFn,.nilFunc,none,false,false⟩:=by kernel_rfl
@[simp] theorem T_252:T 252=some ⟨.func #[63] #[3] true,1,8,.nilFn,.nilFunc,none,false,false⟩:=by kernel_rfl
@[simp] theorem T_253:T 253=some ⟨.func #[3,3,59] #[4] false,1,8,.nilFn,.nilFunc,none,false,false⟩:=by kernel_rfl
@[simp] theorem T_254:T 254=some ⟨.func #[3,3] #[4] false,1,8,.nilFn,.nilFunc,none,false,false⟩:=by kernel_rfl
@[simp] theorem T_255:T 255=some ⟨.func #[115,3,3,166] #[] false,1,8,.nilFn,.nilFunc,none,false,false⟩:=by kernel_rfl
@[simp] theorem T_256:T 256=some ⟨.int .i64,1,8,.int .i64 0,.int .i64 0,some (.int .i64),false,false⟩:=by kernel_rfl
@[simp] theorem T_258:T 258=some ⟨.func #[115,3,3,166] #[3,256] false,1,8,.nilFn,.nilFunc,none,false,false⟩:=by kernel_rfl
@[simp] theorem T_259:T 259=some ⟨.func #[115,3,3,166] #[4] false,1,8,.nilFn,.nilFunc,none,false,false⟩:=by kernel_rfl
@[simp] theorem T_260:T 260=some ⟨.func #[115,3,3,3,166] #[3] false,1,8,.nilFn,.nilFunc,none,false,false⟩:=by kernel_rfl
@[simp] theorem T_261:T 261=some ⟨.func #[115,3,3,3,166] #[3,4] false,1,8,.nilFn,.nilFunc,none,false,false⟩:=by kernel_rfl
@[simp] theorem T_262:T 262=some ⟨.func #[58] #[3] false,1,8,.nilFn,.nilFunc,none,false,false⟩:=by kernel_rfl
@[simp] theorem T_263:T 263=some ⟨.func #[264] #[3] false,1,8,.nilFn,.nilFunc,none,false,false⟩:=by kernel_rfl
@[simp] theorem T_264:T 264=some ⟨.int .u64,1,8,.int .u64 0,.int .u64 0,some (.int .u64),false,false⟩:=by kernel_rfl
@[simp] theorem T_265:T 265=some ⟨.func #[3,61] #[228,29] false,1,8,.nilFn,.nilFunc,none,false,false⟩:=by kernel_rfl
@[simp] theorem T_266:T 266=some ⟨.func #[3,73] #[4] false,1,8,.nilFn,.nilFunc,none,false,false⟩:=by kernel_rfl
@[simp] theorem T_267:T 267=some ⟨.func #[3,68] #[4] false,1,8,.nilFn,.nilFunc,none,false,false⟩:=by kernel_rfl
@[simp] theorem T_268:T 268=some ⟨.func #[3,70] #[4] false,1,8,.nilFn,.nilFunc,none,false,false⟩:=by kernel_rfl
@[simp] theorem T_269:T 269=some ⟨.func #[25,68] #[180,29] false,1,8,.nilFn,.nilFunc,none,false,false⟩:=by kernel_rfl
@[simp] theorem T_270:T 270=some ⟨.func #[25,70] #[180,29] false,1,8,.nilFn,.nilFunc,none,false,false⟩:=by kernel_rfl
@[simp] theorem T_271:T 271=some ⟨.func #[25,73] #[180,29] false,1,8,.nilFn,.nilFunc,none,false,false⟩:=by kernel_rfl
@[simp] theorem T_272:T 272=some ⟨.map 273 4,1,8,.nilM,.map none,none,false,false⟩:=by kernel_rfl
@[simp] theorem T_273:T 273=some ⟨.array 3 2,3,24,.agg [.int .i64 0,.int .i64 0,.int .i64 0],.agg #[.int .i64 0,.int .i64 0,.int .i64 0],some (.arr 3),true,false⟩:=by kernel_rfl
@[simp] theorem T_274:T 274=some ⟨.func #[107] #[273] false,1,8,.nilFn,.nilFunc,none,false,false⟩:=by kernel_rfl
@[simp] theorem T_275:T 275=some ⟨.func #[180] #[107] true,1,8,.nilFn,.nilFunc,none,false,false⟩:=by kernel_rfl
@[simp] theorem T_276:T 276=some ⟨.func #[107] #[4] false,1,8,.nilFn,.nilFunc,none,false,false⟩:=by kernel_rfl
@[simp] theorem T_277:T 277=some ⟨.func #[180,278] #[] false,1,8,.nilFn,.nilFunc,none,false,false⟩:=by kernel_rfl
@[simp] theorem T_278:T 278=some ⟨.func #[107,107] #[3] false,1,8,.nilFn,.nilFunc,none,false,false⟩:=by kernel_rfl
@[simp] theorem T_279:T 279=some ⟨.func #[180,280] #[180] false,1,8,.nilFn,.nilFunc,none,false,false⟩:=by kernel_rfl
@[simp] theorem T_280:T 280=some ⟨.func #[107,107] #[4] false,1,8,.nilFn,.nilFunc,none,false,false⟩:=by kernel_rfl
@[simp] theorem T_281:T 281=some ⟨.func #[63,3,237] #[] false,1,8,.nilFn,.nilFunc,none,false,false⟩:=by kernel_rfl
@[simp] theorem T_282:T 282=some ⟨.func #[63,239] #[3] false,1,8,.nilFn,.nilFunc,none,false,false⟩:=by kernel_rfl
@[simp] theorem T_283:T 283=some ⟨.func #[63,3,3,3] #[] false,1,8,.nilFn,.nilFunc,none,false,false⟩:=by kernel_rfl
@[simp] theorem T_284:T 284=some ⟨.func #[63,3] #[3] false,1,8,.nilFn,.nilFunc,none,false,false⟩:=by kernel_rfl
@[simp] theorem T_285:T 285=some ⟨.func #[149,286] #[4] false,1,8,.nilFn,.nilFunc,none,false,false⟩:=by kernel_rfl
@[simp] theorem T_286:T 286=some ⟨.func #[63] #[4] false,1,8,.nilFn,.nilFunc,none,false,false⟩:=by kernel_rfl
@[simp] theorem T_287:T 287=some ⟨.struct #[⟨ "Edge",3,0,false, "", "",0⟩,⟨ "Amount",2,1,false, "", "",8⟩],2,16,.agg [.int .i64 0,.int .i64 0],.agg #[.int .i64 0,.int .i64 0],none,true,false⟩:=by kernel_rfl
@[simp] theorem T_288:T 288=some ⟨.struct #[⟨ "Edge",3,0,false, "", "",0⟩,⟨ "Amount",2,1,false, "", "",8⟩],2,16,.agg [.int .i64 0,.int .i64 0],.agg #[.int .i64 0,.int .i64 0],none,true,false⟩:=by kernel_rfl
@[simp] theorem T_289:T 289=some ⟨.slice 108,1,24,.nilS,.slice none 0 0,none,false,false⟩:=by kernel_rfl
@[simp] theorem T_290:T 290=some ⟨.func #[108,3] #[108] false,1,8,.nilFn,.nilFunc,none,false,false⟩:=by kernel_rfl
@[simp] theorem T_291:T 291=some ⟨.func #[114,3,3,203] #[] false,1,8,.nilFn,.nilFunc,none,false,false⟩:=by kernel_rfl
@[simp] theorem T_292:T 292=some ⟨.func #[114,3,3,203] #[3,256] false,1,8,.nilFn,.nilFunc,none,false,false⟩:=by kernel_rfl
@[simp] theorem T_293:T 293=some ⟨.func #[114,3,3,203] #[4] false,1,8,.nilFn,.nilFunc,none,false,false⟩:=by kernel_rfl
@[simp] theorem T_294:T 294=some ⟨.func #[114,3,3,3,203] #[3] false,1,8,.nilFn,.nilFunc,none,false,false⟩:=by kernel_rfl
@[simp] theorem T_295:T 295=some ⟨.func #[114,3,3,3,203] #[3,4] false,1,8,.nilFn,.nilFunc,none,false,false⟩:=by kernel_rfl
@[simp] theorem T_296:T 296=some ⟨.int .u64,1,8,.int .u64 0,.int .u64 0,some (.int .u64),false,false⟩:=by kernel_rfl
@[simp] theorem T_297:T 297=some ⟨.func #[3] #[220] false,1,8,.nilFn,.nilFunc,none,false,false⟩:=by kernel_rfl
@[simp] theorem T_298:T 298=some ⟨.func #[] #[264] false,1,8,.nilFn,.nilFunc,none,false,false⟩:=by kernel_rfl
@[simp] theorem T_299:T 299=some ⟨.func #[115,3,300,166] #[3] false,1,8,.nilFn,.nilFunc,none,false,false⟩:=by kernel_rfl
@[simp] theorem T_300:T 300=some ⟨.pointer 3,1,8,.nilP,.pointer none,none,false,false⟩:=by kernel_rfl
@[simp] theorem T_301:T 301=some ⟨.func #[115,3,3,3,300,166] #[3] false,1,8,.nilFn,.nilFunc,none,false,false⟩:=by kernel_rfl
@[simp] theorem T_302:T 302=some ⟨.func #[23] #[] false,1,8,.nilFn,.nilFunc,none,false,false⟩:=by kernel_rfl
@[simp] theorem T_303:T 303=some ⟨.func #[59] #[63] false,1,8,.nilFn,.nilFunc,none,false,false⟩:=by kernel_rfl
@[simp] theorem T_304:T 304=some ⟨.struct #[⟨ "Var",3,0,false, "", "",0⟩,⟨ "Attr",3,1,false, "", "",8⟩,⟨ "Value",48,2,false, "", "",16⟩],5,48,.agg [.int .i64 0,.int .i64 0,.int .i64 0,.int .i64 0,.str gI],.agg #[.int .i64 0,.int .i64 0,.int .i64 0,.int .i64 0,.string gI],none,true,false⟩:=by kernel_rfl
@[simp] theorem T_305:T 305=some ⟨.struct #[⟨ "Var",3,0,false, "", "",0⟩,⟨ "Attr",3,1,false, "", "",8⟩,⟨ "Value",48,2,false, "", "",16⟩],5,48,.agg [.int .i64 0,.int .i64 0,.int .i64 0,.int .i64 0,.str gI],.agg #[.int .i64 0,.int .i64 0,.int .i64 0,.int .i64 0,.string gI],none,true,false⟩:=by kernel_rfl
@[simp] theorem T_306:T 306=some ⟨.struct #[⟨ "Left",305,0,false, "", "",0⟩,⟨ "Op",3,5,false, "", "",48⟩,⟨ "Right",305,6,false, "", "",56⟩],11,104,.agg [.int .i64 0,.int .i64 0,.int .i64 0,.int .i64 0,.str gI,.int .i64 0,.int .i64 0,.int .i64 0,.int .i64 0,.int .i64 0,.str gI],.agg #[.int .i64 0,.int .i64 0,.int .i64 0,.int .i64 0,.string gI,.int .i64 0,.int .i64 0,.int .i64 0,.int .i64 0,.int .i64 0,.string gI],none,true,false⟩:=by kernel_rfl
@[simp] theorem T_307:T 307=some ⟨.struct #[⟨ "Left",305,0,false, "", "",0⟩,⟨ "Op",3,5,false, "", "",48⟩,⟨ "Right",305,6,false, "", "",56⟩],11,104,.agg [.int .i64 0,.int .i64 0,.int .i64 0,.int .i64 0,.str gI,.int .i64 0,.int .i64 0,.int .i64 0,.int .i64 0,.int .i64 0,.str gI],.agg #[.int .i64 0,.int .i64 0,.int .i64 0,.int .i64 0,.string gI,.int .i64 0,.int .i64 0,.int .i64 0,.int .i64 0,.int .i64 0,.string gI],none,true,false⟩:=by kernel_rfl
@[simp] theorem T_308:T 308=some ⟨.func #[3,3] #[307] false,1,8,.nilFn,.nilFunc,none,false,false⟩:=by kernel_rfl
@[simp] theorem T_309:T 309=some ⟨.func #[71,311] #[4] false,1,8,.nilFn,.nilFunc,none,false,false⟩:=by kernel_rfl
@[simp] theorem T_310:T 310=some ⟨.func #[3,3,305] #[4] false,1,8,.nilFn,.nilFunc,none,false,false⟩:=by kernel_rfl
@[simp] theorem T_311:T 311=some ⟨.func #[307] #[4] false,1,8,.nilFn,.nilFunc,none,false,false⟩:=by kernel_rfl
@[simp] theorem T_312:T 312=some ⟨.func #[66,315] #[4] false,1,8,.nilFn,.nilFunc,none,false,false⟩:=by kernel_rfl
@[simp] theorem T_313:T 313=some ⟨.struct #[⟨ "Any",4,0,false, "", "",0⟩,⟨ "Value",48,1,false, "", "",8⟩],4,40,.agg [.bool false,.int .i64 0,.int .i64 0,.str gI],.agg #[.bool false,.int .i64 0,.int .i64 0,.string gI],none,true,false⟩:=by kernel_rfl
@[simp] theorem T_314:T 314=some ⟨.struct #[⟨ "Any",4,0,false, "", "",0⟩,⟨ "Value",48,1,false, "", "",8⟩],4,40,.agg [.bool false,.int .i64 0,.int .i64 0,.str gI],.agg #[.bool false,.int .i64 0,.int .i64 0,.string gI],none,true,false⟩:=by kernel_rfl
@[simp] theorem T_315:T 315=some ⟨.func #[314] #[4] false,1,8,.nilFn,.nilFunc,none,false,false⟩:=by kernel_rfl
@[simp] theorem T_316:T 316=some ⟨.func #[3,63] #[4] false,1,8,.nilFn,.nilFunc,none,false,false⟩:=by kernel_rfl
@[simp] theorem T_317:T 317=some ⟨.func #[68,44] #[4] false,1,8,.nilFn,.nilFunc,none,false,false⟩:=by kernel_rfl
@[simp] theorem T_318:T 318=some ⟨.func #[314,48] #[4] false,1,8,.nilFn,.nilFunc,none,false,false⟩:=by kernel_rfl
@[simp] theorem T_319:T 319=some ⟨.func #[68] #[314] false,1,8,.nilFn,.nilFunc,none,false,false⟩:=by kernel_rfl
@[simp] theorem T_320:T 320=some ⟨.func #[68,44,44] #[4] false,1,8,.nilFn,.nilFunc,none,false,false⟩:=by kernel_rfl
@[simp] theorem T_321:T 321=some ⟨.func #[25,239] #[29] false,1,8,.nilFn,.nilFunc,none,false,false⟩:=by kernel_rfl
@[simp] theorem T_322:T 322=some ⟨.func #[46,46,70] #[3] false,1,8,.nilFn,.nilFunc,none,false,false⟩:=by kernel_rfl
@[simp] theorem T_323:T 323=some ⟨.func #[25,73] #[29] false,1,8,.nilFn,.nilFunc,none,false,false⟩:=by kernel_rfl
@[simp] theorem T_324:T 324=some ⟨.func #[25,73,23,326] #[4] false,1,8,.nilFn,.nilFunc,none,false,false⟩:=by kernel_rfl
@[simp] theorem T_325:T 325=some ⟨.func #[107] #[] false,1,8,.nilFn,.nilFunc,none,false,false⟩:=by kernel_rfl
@[simp] theorem T_326:T 326=some ⟨.func #[23] #[4] false,1,8,.nilFn,.nilFunc,none,false,false⟩:=by kernel_rfl
@[simp] theorem T_327:T 327=some ⟨.func #[107,3] #[107] false,1,8,.nilFn,.nilFunc,none,false,false⟩:=by kernel_rfl
@[simp] theorem T_328:T 328=some ⟨.func #[180,3,3,3,278] #[] false,1,8,.nilFn,.nilFunc,none,false,false⟩:=by kernel_rfl
@[simp] theorem T_329:T 329=some ⟨.func #[63,3,3,237] #[] false,1,8,.nilFn,.nilFunc,none,false,false⟩:=by kernel_rfl
@[simp] theorem T_330:T 330=some ⟨.func #[63,3,3,3,237] #[] false,1,8,.nilFn,.nilFunc,none,false,false⟩:=by kernel_rfl
@[simp] theorem T_331:T 331=some ⟨.func #[63,3,3] #[] false,1,8,.nilFn,.nilFunc,none,false,false⟩:=by kernel_rfl
@[simp] theorem T_332:T 332=some ⟨.func #[63,3,3] #[3,256] false,1,8,.nilFn,.nilFunc,none,false,false⟩:=by kernel_rfl
@[simp] theorem T_333:T 333=some ⟨.func #[63,3,3] #[4] false,1,8,.nilFn,.nilFunc,none,false,false⟩:=by kernel_rfl
@[simp] theorem T_334:T 334=some ⟨.func #[63,3,3,3] #[3] false,1,8,.nilFn,.nilFunc,none,false,false⟩:=by kernel_rfl
@[simp] theorem T_335:T 335=some ⟨.func #[63,3,3,3] #[3,4] false,1,8,.nilFn,.nilFunc,none,false,false⟩:=by kernel_rfl
@[simp] theorem T_336:T 336=some ⟨.func #[149,286] #[3] false,1,8,.nilFn,.nilFunc,none,false,false⟩:=by kernel_rfl
@[simp] theorem T_337:T 337=some ⟨.func #[114,3,300,203] #[3] false,1,8,.nilFn,.nilFunc,none,false,false⟩:=by kernel_rfl
@[simp] theorem T_338:T 338=some ⟨.func #[114,3,3,3,300,203] #[3] false,1,8,.nilFn,.nilFunc,none,false,false⟩:=by kernel_rfl
@[simp] theorem T_339:T 339=some ⟨.pointer 296,1,8,.nilP,.pointer none,none,false,false⟩:=by kernel_rfl
@[simp] theorem T_341:T 341=some ⟨.func #[115,3,3,300,166] #[3,3] false,1,8,.nilFn,.nilFunc,none,false,false⟩:=by kernel_rfl
@[simp] theorem T_342:T 342=some ⟨.func #[3,3] #[305] false,1,8,.nilFn,.nilFunc,none,false,false⟩:=by kernel_rfl
@[simp] theorem T_343:T 343=some ⟨.func #[71,311] #[3] false,1,8,.nilFn,.nilFunc,none,false,false⟩:=by kernel_rfl
@[simp] theorem T_344:T 344=some ⟨.func #[66,315] #[3] false,1,8,.nilFn,.nilFunc,none,false,false⟩:=by kernel_rfl
@[simp] theorem T_345:T 345=some ⟨.func #[46,46,63] #[3] false,1,8,.nilFn,.nilFunc,none,false,false⟩:=by kernel_rfl
@[simp] theorem T_346:T 346=some ⟨.func #[23,71] #[4] false,1,8,.nilFn,.nilFunc,none,false,false⟩:=by kernel_rfl
@[simp] theorem T_347:T 347=some ⟨.func #[23,124] #[4] false,1,8,.nilFn,.nilFunc,none,false,false⟩:=by kernel_rfl
@[simp] theorem T_348:T 348=some ⟨.func #[23] #[23] false,1,8,.nilFn,.nilFunc,none,false,false⟩:=by kernel_rfl
@[simp] theorem T_349:T 349=some ⟨.func #[107,3,3,3] #[] false,1,8,.nilFn,.nilFunc,none,false,false⟩:=by kernel_rfl
@[simp] theorem T_350:T 350=some ⟨.func #[180,3,3,278] #[] false,1,8,.nilFn,.nilFunc,none,false,false⟩:=by kernel_rfl
@[simp] theorem T_351:T 351=some ⟨.func #[180,3,3,278] #[3,256] false,1,8,.nilFn,.nilFunc,none,false,false⟩:=by kernel_rfl
@[simp] theorem T_352:T 352=some ⟨.func #[180,3,3,278] #[4] false,1,8,.nilFn,.nilFunc,none,false,false⟩:=by kernel_rfl
@[simp] theorem T_353:T 353=some ⟨.func #[180,3,3,3,278] #[3] false,1,8,.nilFn,.nilFunc,none,false,false⟩:=by kernel_rfl
@[simp] theorem T_354:T 354=some ⟨.func #[180,3,3,3,278] #[3,4] false,1,8,.nilFn,.nilFunc,none,false,false⟩:=by kernel_rfl
@[simp] theorem T_355:T 355=some ⟨.func #[63,3,300] #[3] false,1,8,.nilFn,.nilFunc,none,false,false⟩:=by kernel_rfl
@[simp] theorem T_356:T 356=some ⟨.func #[63,3,3,3,300] #[3] false,1,8,.nilFn,.nilFunc,none,false,false⟩:=by kernel_rfl
@[simp] theorem T_357:T 357=some ⟨.func #[114,3,3,300,203] #[3,3] false,1,8,.nilFn,.nilFunc,none,false,false⟩:=by kernel_rfl
@[simp] theorem T_358:T 358=some ⟨.array 32 5,32,32,.agg [.int .u8 0,.int .u8 0,.int .u8 0,.int .u8 0,.int .u8 0,.int .u8 0,.int .u8 0,.int .u8 0,.int .u8 0,.int .u8 0,.int .u8 0,.int .u8 0,.int .u8 0,.int .u8 0,.int .u8 0,.int .u8 0,.int .u8 0,.int .u8 0,.int .u8 0,.int .u8 0,.int .u8 0,.int .u8 0,.int .u8 0,.int .u8 0,.int .u8 0,.int .u8 0,.int .u8 0,.int .u8 0,.int .u8 0,.int .u8 0,.int .u8 0,.int .u8 0],.agg #[.int .u8 0,.int .u8 0,.int .u8 0,.int .u8 0,.int .u8 0,.int .u8 0,.int .u8 0,.int .u8 0,.int .u8 0,.int .u8 0,.int .u8 0,.int .u8 0,.int .u8 0,.int .u8 0,.int .u8 0,.int .u8 0,.int .u8 0,.int .u8 0,.int .u8 0,.int .u8 0,.int .u8 0,.int .u8 0,.int .u8 0,.int .u8 0,.int .u8 0,.int .u8 0,.int .u8 0,.int .u8 0,.int .u8 0,.int .u8 0,.int .u8 0,.int .u8 0],none,true,false⟩:=by kernel_rfl
@[simp] theorem T_359:T 359=some ⟨.func #[23,305] #[48] false,1,8,.nilFn,.nilFunc,none,false,false⟩:=by kernel_rfl
@[simp] theorem T_360:T 360=some ⟨.func #[107,3,3] #[] false,1,8,.nilFn,.nilFunc,none,false,false⟩:=by kernel_rfl
@[simp] theorem T_361:T 361=some ⟨.func #[107,3,3] #[3,256] false,1,8,.nilFn,.nilFunc,none,false,false⟩:=by kernel_rfl
@[simp] theorem T_362:T 362=some ⟨.func #[107,3,3] #[4] false,1,8,.nilFn,.nilFunc,none,false,false⟩:=by kernel_rfl
@[simp] theorem T_363:T 363=some ⟨.func #[107,3,3,3] #[3] false,1,8,.nilFn,.nilFunc,none,false,false⟩:=by kernel_rfl
@[simp] theorem T_364:T 364=some ⟨.func #[107,3,3,3] #[3,4] false,1,8,.nilFn,.nilFunc,none,false,false⟩:=by kernel_rfl
@[simp] theorem T_365:T 365=some ⟨.func #[180,3,300,278] #[3] false,1,8,.nilFn,.nilFunc,none,false,false⟩:=by kernel_rfl
@[simp] theorem T_366:T 366=some ⟨.func #[180,3,3,3,300,278] #[3] false,1,8,.nilFn,.nilFunc,none,false,false⟩:=by kernel_rfl
@[simp] theorem T_367:T 367=some ⟨.func #[63,3,3,300] #[3,3] false,1,8,.nilFn,.nilFunc,none,false,false⟩:=by kernel_rfl
@[simp] theorem T_368:T 368=some ⟨.func #[107,3,300] #[3] false,1,8,.nilFn,.nilFunc,none,false,false⟩:=by kernel_rfl
@[simp] theorem T_369:T 369=some ⟨.func #[107,3,3,3,300] #[3] false,1,8,.nilFn,.nilFunc,none,false,false⟩:=by kernel_rfl
@[simp] theorem T_370:T 370=some ⟨.func #[180,3,3,300,278] #[3,3] false,1,8,.nilFn,.nilFunc,none,false,false⟩:=by kernel_rfl
@[simp] theorem T_371:T 371=some ⟨.func #[107,3,3,300] #[3,3] false,1,8,.nilFn,.nilFunc,none,false,false⟩:=by kernel_rfl
@[simp] theorem T_372:T 372=some ⟨.func #[] #[9] false,1,8,.nilFn,.nilFunc,none,false,false⟩:=by kernel_rfl
@[simp] theorem T_373:T 373=some ⟨.struct #[⟨ "_interface",17,0,false, "", "runtime",0⟩,⟨ "concrete",17,1,false, "", "runtime",8⟩,⟨ "asserted",17,2,false, "", "runtime",16⟩,⟨ "missingMethod",9,3,false, "", "runtime",24⟩],4,40,.agg [.nilP,.nilP,.nilP,.str gI],.agg #[.pointer none,.pointer none,.pointer none,.string gI],none,false,false⟩:=by kernel_rfl
@[simp] theorem T_374:T 374=some ⟨.struct #[⟨ "_interface",17,0,false, "", "runtime",0⟩,⟨ "concrete",17,1,false, "", "runtime",8⟩,⟨ "asserted",17,2,false, "", "runtime",16⟩,⟨ "missingMethod",9,3,false, "", "runtime",24⟩],4,40,.agg [.nilP,.nilP,.nilP,.str gI],.agg #[.pointer none,.pointer none,.pointer none,.string gI],none,false,false⟩:=by kernel_rfl
@[simp] theorem T_375:T 375=some ⟨.array 0 16,0,0,.agg [],.agg #[],none,true,false⟩:=by kernel_rfl
@[simp] theorem T_376:T 376=some ⟨.struct #[⟨ "_",375,0,false, "", "runtime",0⟩],0,0,.agg [],.agg #[],none,false,false⟩:=by kernel_rfl
@[simp] theorem T_377:T 377=some ⟨.struct #[⟨ "_",375,0,false, "", "runtime",0⟩],0,0,.agg [],.agg #[],none,false,false⟩:=by kernel_rfl
@[simp] theorem T_378:T 378=some ⟨.int .u8,1,1,.int .u8 0,.int .u8 0,some (.int .u8),false,false⟩:=by kernel_rfl
@[simp] theorem T_379:T 379=some ⟨.int .u8,1,1,.int .u8 0,.int .u8 0,some (.int .u8),false,false⟩:=by kernel_rfl
@[simp] theorem T_380:T 380=some ⟨.func #[386,386] #[4] false,1,8,.nilFn,.nilFunc,none,false,false⟩:=by kernel_rfl
@[simp] theorem T_381:T 381=some ⟨.pointer 5,1,8,.nilP,.pointer none,none,false,false⟩:=by kernel_rfl
@[simp] theorem T_382:T 382=some ⟨.int .i32,1,4,.int .i32 0,.int .i32 0,some (.int .i32),false,false⟩:=by kernel_rfl
@[simp] theorem T_383:T 383=some ⟨.int .i32,1,4,.int .i32 0,.int .i32 0,some (.int .i32),false,false⟩:=by kernel_rfl
@[simp] theorem T_384:T 384=some ⟨.struct #[⟨ "Size_",12,0,false, "", "",0⟩,⟨ "PtrBytes",12,1,false, "", "",8⟩,⟨ "Hash",58,2,false, "", "",16⟩,⟨ "TFlag",378,3,false, "", "",20⟩,⟨ "Align_",5,4,false, "", "",21⟩,⟨ "FieldAlign_",5,5,false, "", "",22⟩,⟨ "Kind_",379,6,false, "", "",23⟩,⟨ "Equal",380,7,false, "", "",24⟩,⟨ "GCData",381,8,false, "", "",32⟩,⟨ "Str",382,9,false, "", "",40⟩,⟨ "PtrToThis",383,10,false, "", "",44⟩],11,48,.agg [.int .u64 0,.int .u64 0,.int .u32 0,.int .u8 0,.int .u8 0,.int .u8 0,.int .u8 0,.nilFn,.nilP,.int .i32 0,.int .i32 0],.agg #[.int .u64 0,.int .u64 0,.int .u32 0,.int .u8 0,.int .u8 0,.int .u8 0,.int .u8 0,.nilFunc,.pointer none,.int .i32 0,.int .i32 0],none,false,false⟩:=by kernel_rfl
@[simp] theorem T_385:T 385=some ⟨.struct #[⟨ "Size_",12,0,false, "", "",0⟩,⟨ "PtrBytes",12,1,false, "", "",8⟩,⟨ "Hash",58,2,false, "", "",16⟩,⟨ "TFlag",378,3,false, "", "",20⟩,⟨ "Align_",5,4,false, "", "",21⟩,⟨ "FieldAlign_",5,5,false, "", "",22⟩,⟨ "Kind_",379,6,false, "", "",23⟩,⟨ "Equal",380,7,false, "", "",24⟩,⟨ "GCData",381,8,false, "", "",32⟩,⟨ "Str",382,9,false, "", "",40⟩,⟨ "PtrToThis",383,10,false, "", "",44⟩],11,48,.agg [.int .u64 0,.int .u64 0,.int .u32 0,.int .u8 0,.int .u8 0,.int .u8 0,.int .u8 0,.nilFn,.nilP,.int .i32 0,.int .i32 0],.agg #[.int .u64 0,.int .u64 0,.int .u32 0,.int .u8 0,.int .u8 0,.int .u8 0,.int .u8 0,.nilFunc,.pointer none,.int .i32 0,.int .i32 0],none,false,false⟩:=by kernel_rfl
theorem tok:TOk Tryz.prog T:=mk_ok
end
end Go.Proofs.YtjceoiofkccfdaaGreatDoor
