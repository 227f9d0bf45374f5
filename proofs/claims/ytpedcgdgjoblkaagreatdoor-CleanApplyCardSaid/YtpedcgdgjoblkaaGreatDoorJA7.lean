/- JA7: own texts of this seat, joined and shortened by pack4.py: Ty. -/
import Derived.Test.YtpedcgdgjoblkaaGreatDoorJA5
import Derived.Test.YtpedcgdgjoblkaaGreatDoorProg
import Derived.KernelRfl
set_option linter.unusedVariables false
set_option linter.unusedSimpArgs false
set_option maxRecDepth 100000
set_option maxHeartbeats 64000000
open ByteArray renaming empty→kI
namespace Go.Proofs.YtpedcgdgjoblkaaGreatDoor
section
open Go Go.AM
noncomputable def T:Ty:=mkTI Tryz.prog
@[simp] theorem T_1:T 1=some ⟨.func #[] #[] false,1,8,.nilFn,.nilFunc,none,false,false⟩:=by kernel_rfl
@[simp] theorem T_2:T 2=some ⟨.int .i64,1,8,.int .i64 0,.int .i64 0,some (.int .i64),false,false⟩:=by kernel_rfl
@[simp] theorem T_3:T 3=some ⟨.int .i64,1,8,.int .i64 0,.int .i64 0,some (.int .i64),false,false⟩:=by kernel_rfl
@[simp] theorem T_4:T 4=some ⟨.bool,1,1,.bool false,.bool false,some .bool,false,false⟩:=by kernel_rfl
@[simp] theorem T_5:T 5=some ⟨.int .u8,1,1,.int .u8 0,.int .u8 0,some (.int .u8),false,false⟩:=by kernel_rfl
@[simp] theorem T_6:T 6=some ⟨.int .u8,1,1,.int .u8 0,.int .u8 0,some (.int .u8),false,false⟩:=by kernel_rfl
@[simp] theorem T_7:T 7=some ⟨.struct #[⟨ "x",2,0,false, "", "runtime",0⟩,⟨ "y",3,1,false, "", "runtime",8⟩,⟨ "signed",4,2,false, "", "runtime",16⟩,⟨ "code",6,3,false, "", "runtime",17⟩],4,24,.agg [.int .i64 0,.int .i64 0,.bool false,.int .u8 0],.agg #[.int .i64 0,.int .i64 0,.bool false,.int .u8 0],none,true,false⟩:=by kernel_rfl
@[simp] theorem T_8:T 8=some ⟨.struct #[⟨ "x",2,0,false, "", "runtime",0⟩,⟨ "y",3,1,false, "", "runtime",8⟩,⟨ "signed",4,2,false, "", "runtime",16⟩,⟨ "code",6,3,false, "", "runtime",17⟩],4,24,.agg [.int .i64 0,.int .i64 0,.bool false,.int .u8 0],.agg #[.int .i64 0,.int .i64 0,.bool false,.int .u8 0],none,true,false⟩:=by kernel_rfl
@[simp] theorem T_9:T 9=some ⟨.string,1,16,.str kI,.string kI,some .str,false,false⟩:=by kernel_rfl
@[simp] theorem T_10:T 10=some ⟨.string,1,16,.str kI,.string kI,some .str,false,false⟩:=by kernel_rfl
@[simp] theorem T_11:T 11=some ⟨.string,1,16,.str kI,.string kI,some .str,false,false⟩:=by kernel_rfl
@[simp] theorem T_12:T 12=some ⟨.int .u64,1,8,.int .u64 0,.int .u64 0,some (.int .u64),false,false⟩:=by kernel_rfl
@[simp] theorem T_13:T 13=some ⟨.struct #[⟨ "msg",9,0,false, "", "runtime",0⟩,⟨ "addr",12,1,false, "", "runtime",16⟩],2,24,.agg [.str kI,.int .u64 0],.agg #[.string kI,.int .u64 0],none,false,false⟩:=by kernel_rfl
@[simp] theorem T_14:T 14=some ⟨.struct #[⟨ "msg",9,0,false, "", "runtime",0⟩,⟨ "addr",12,1,false, "", "runtime",16⟩],2,24,.agg [.str kI,.int .u64 0],.agg #[.string kI,.int .u64 0],none,false,false⟩:=by kernel_rfl
@[simp] theorem T_15:T 15=some ⟨.pointer 528,1,8,.nilP,.pointer none,none,false,false⟩:=by kernel_rfl
@[simp] theorem T_16:T 16=some ⟨.pointer 531,1,8,.nilP,.pointer none,none,false,false⟩:=by kernel_rfl
@[simp] theorem T_17:T 17=some ⟨.pointer 538,1,8,.nilP,.pointer none,none,false,false⟩:=by kernel_rfl
@[simp] theorem T_18:T 18=some ⟨.struct #[⟨ "typ",17,0,false, "", "internal/runtime/maps",0⟩],1,8,.agg [.nilP],.agg #[.pointer none],none,false,false⟩:=by kernel_rfl
@[simp] theorem T_19:T 19=some ⟨.struct #[⟨ "typ",17,0,false, "", "internal/runtime/maps",0⟩],1,8,.agg [.nilP],.agg #[.pointer none],none,false,false⟩:=by kernel_rfl
@[simp] theorem T_21:T 21=some ⟨.int .i32,1,4,.int .i32 0,.int .i32 0,some (.int .i32),false,false⟩:=by kernel_rfl
@[simp] theorem T_22:T 22=some ⟨.slice 55,1,24,.nilS,.slice none 0 0,none,false,false⟩:=by kernel_rfl
@[simp] theorem T_23:T 23=some ⟨.struct #[⟨ "Attrs",5,0,false, "", "",0⟩,⟨ "Gap",5,1,false, "", "",1⟩,⟨ "Rows",22,2,false, "", "",8⟩],3,32,.agg [.int .u8 0,.int .u8 0,.nilS],.agg #[.int .u8 0,.int .u8 0,.slice none 0 0],none,true,false⟩:=by kernel_rfl
@[simp] theorem T_24:T 24=some ⟨.struct #[⟨ "Attrs",5,0,false, "", "",0⟩,⟨ "Gap",5,1,false, "", "",1⟩,⟨ "Rows",22,2,false, "", "",8⟩],3,32,.agg [.int .u8 0,.int .u8 0,.nilS],.agg #[.int .u8 0,.int .u8 0,.slice none 0 0],none,true,false⟩:=by kernel_rfl
@[simp] theorem T_25:T 25=some ⟨.slice 45,1,24,.nilS,.slice none 0 0,none,false,false⟩:=by kernel_rfl
@[simp] theorem T_26:T 26=some ⟨.slice 9,1,24,.nilS,.slice none 0 0,none,false,false⟩:=by kernel_rfl
@[simp] theorem T_27:T 27=some ⟨.slice 41,1,24,.nilS,.slice none 0 0,none,false,false⟩:=by kernel_rfl
@[simp] theorem T_28:T 28=some ⟨.struct #[⟨ "Name",9,0,false, "", "",0⟩,⟨ "Attrs",26,1,false, "", "",16⟩,⟨ "Rows",27,2,false, "", "",40⟩],3,64,.agg [.str kI,.nilS,.nilS],.agg #[.string kI,.slice none 0 0,.slice none 0 0],none,true,false⟩:=by kernel_rfl
@[simp] theorem T_29:T 29=some ⟨.struct #[⟨ "Name",9,0,false, "", "",0⟩,⟨ "Attrs",26,1,false, "", "",16⟩,⟨ "Rows",27,2,false, "", "",40⟩],3,64,.agg [.str kI,.nilS,.nilS],.agg #[.string kI,.slice none 0 0,.slice none 0 0],none,true,false⟩:=by kernel_rfl
@[simp] theorem T_31:T 31=some ⟨.func #[24,3] #[29,4] false,1,8,.nilFn,.nilFunc,none,false,false⟩:=by kernel_rfl
@[simp] theorem T_32:T 32=some ⟨.func #[] #[4] false,1,8,.nilFn,.nilFunc,none,false,false⟩:=by kernel_rfl
@[simp] theorem T_33:T 33=some ⟨.pointer 127,1,8,.nilP,.pointer none,none,false,false⟩:=by kernel_rfl
@[simp] theorem T_35:T 35=some ⟨.func #[29] #[33,4] false,1,8,.nilFn,.nilFunc,none,false,false⟩:=by kernel_rfl
@[simp] theorem T_36:T 36=some ⟨.int .i64,1,8,.int .i64 0,.int .i64 0,some (.int .i64),false,false⟩:=by kernel_rfl
@[simp] theorem T_37:T 37=some ⟨.func #[33,9,25] #[36] false,1,8,.nilFn,.nilFunc,none,false,false⟩:=by kernel_rfl
@[simp] theorem T_38:T 38=some ⟨.func #[25] #[25] false,1,8,.nilFn,.nilFunc,none,false,false⟩:=by kernel_rfl
@[simp] theorem T_39:T 39=some ⟨.slice 43,1,24,.nilS,.slice none 0 0,none,false,false⟩:=by kernel_rfl
@[simp] theorem T_40:T 40=some ⟨.struct #[⟨ "ID",2,0,false, "", "",0⟩,⟨ "Values",39,1,false, "", "",8⟩],2,32,.agg [.int .i64 0,.nilS],.agg #[.int .i64 0,.slice none 0 0],none,true,false⟩:=by kernel_rfl
@[simp] theorem T_41:T 41=some ⟨.struct #[⟨ "ID",2,0,false, "", "",0⟩,⟨ "Values",39,1,false, "", "",8⟩],2,32,.agg [.int .i64 0,.nilS],.agg #[.int .i64 0,.slice none 0 0],none,true,false⟩:=by kernel_rfl
@[simp] theorem T_42:T 42=some ⟨.struct #[⟨ "Kind",3,0,false, "", "",0⟩,⟨ "Num",2,1,false, "", "",8⟩,⟨ "Str",9,2,false, "", "",16⟩],3,32,.agg [.int .i64 0,.int .i64 0,.str kI],.agg #[.int .i64 0,.int .i64 0,.string kI],none,true,false⟩:=by kernel_rfl
@[simp] theorem T_43:T 43=some ⟨.struct #[⟨ "Kind",3,0,false, "", "",0⟩,⟨ "Num",2,1,false, "", "",8⟩,⟨ "Str",9,2,false, "", "",16⟩],3,32,.agg [.int .i64 0,.int .i64 0,.str kI],.agg #[.int .i64 0,.int .i64 0,.string kI],none,true,false⟩:=by kernel_rfl
@[simp] theorem T_44:T 44=some ⟨.struct #[⟨ "Kind",3,0,false, "", "",0⟩,⟨ "Name",9,1,false, "", "",8⟩,⟨ "Table",29,2,false, "", "",24⟩,⟨ "Row",41,5,false, "", "",88⟩,⟨ "Attr",3,7,false, "", "",120⟩,⟨ "Value",43,8,false, "", "",128⟩],11,160,.agg [.int .i64 0,.str kI,.str kI,.nilS,.nilS,.int .i64 0,.nilS,.int .i64 0,.int .i64 0,.int .i64 0,.str kI],.agg #[.int .i64 0,.string kI,.string kI,.slice none 0 0,.slice none 0 0,.int .i64 0,.slice none 0 0,.int .i64 0,.int .i64 0,.int .i64 0,.string kI],none,true,false⟩:=by kernel_rfl
@[simp] theorem T_45:T 45=some ⟨.struct #[⟨ "Kind",3,0,false, "", "",0⟩,⟨ "Name",9,1,false, "", "",8⟩,⟨ "Table",29,2,false, "", "",24⟩,⟨ "Row",41,5,false, "", "",88⟩,⟨ "Attr",3,7,false, "", "",120⟩,⟨ "Value",43,8,false, "", "",128⟩],11,160,.agg [.int .i64 0,.str kI,.str kI,.nilS,.nilS,.int .i64 0,.nilS,.int .i64 0,.int .i64 0,.int .i64 0,.str kI],.agg #[.int .i64 0,.string kI,.string kI,.slice none 0 0,.slice none 0 0,.int .i64 0,.slice none 0 0,.int .i64 0,.int .i64 0,.int .i64 0,.string kI],none,true,false⟩:=by kernel_rfl
@[simp] theorem T_46:T 46=some ⟨.func #[29,25] #[29,4] false,1,8,.nilFn,.nilFunc,none,false,false⟩:=by kernel_rfl
@[simp] theorem T_47:T 47=some ⟨.func #[33,29,29,25] #[4] false,1,8,.nilFn,.nilFunc,none,false,false⟩:=by kernel_rfl
@[simp] theorem T_48:T 48=some ⟨.func #[] #[36] false,1,8,.nilFn,.nilFunc,none,false,false⟩:=by kernel_rfl
@[simp] theorem T_49:T 49=some ⟨.func #[24,25] #[4] false,1,8,.nilFn,.nilFunc,none,false,false⟩:=by kernel_rfl
@[simp] theorem T_51:T 51=some ⟨.func #[29,29] #[25,36] false,1,8,.nilFn,.nilFunc,none,false,false⟩:=by kernel_rfl
@[simp] theorem T_52:T 52=some ⟨.func #[33,29,29] #[4] false,1,8,.nilFn,.nilFunc,none,false,false⟩:=by kernel_rfl
@[simp] theorem T_53:T 53=some ⟨.func #[24,24] #[4] false,1,8,.nilFn,.nilFunc,none,false,false⟩:=by kernel_rfl
@[simp] theorem T_54:T 54=some ⟨.slice 180,1,24,.nilS,.slice none 0 0,none,false,false⟩:=by kernel_rfl
@[simp] theorem T_55:T 55=some ⟨.slice 5,1,24,.nilS,.slice none 0 0,none,false,false⟩:=by kernel_rfl
@[simp] theorem T_56:T 56=some ⟨.struct #[⟨ "T",24,0,false, "", "",0⟩,⟨ "Rules",54,3,false, "", "",32⟩,⟨ "Weights",55,4,false, "", "",56⟩],5,80,.agg [.int .u8 0,.int .u8 0,.nilS,.nilS,.nilS],.agg #[.int .u8 0,.int .u8 0,.slice none 0 0,.slice none 0 0,.slice none 0 0],none,true,false⟩:=by kernel_rfl
@[simp] theorem T_57:T 57=some ⟨.struct #[⟨ "T",24,0,false, "", "",0⟩,⟨ "Rules",54,3,false, "", "",32⟩,⟨ "Weights",55,4,false, "", "",56⟩],5,80,.agg [.int .u8 0,.int .u8 0,.nilS,.nilS,.nilS],.agg #[.int .u8 0,.int .u8 0,.slice none 0 0,.slice none 0 0,.slice none 0 0],none,true,false⟩:=by kernel_rfl
@[simp] theorem T_58:T 58=some ⟨.slice 101,1,24,.nilS,.slice none 0 0,none,false,false⟩:=by kernel_rfl
@[simp] theorem T_59:T 59=some ⟨.slice 2,1,24,.nilS,.slice none 0 0,none,false,false⟩:=by kernel_rfl
@[simp] theorem T_61:T 61=some ⟨.func #[57] #[29,58,59,4] false,1,8,.nilFn,.nilFunc,none,false,false⟩:=by kernel_rfl
@[simp] theorem T_62:T 62=some ⟨.slice 319,1,24,.nilS,.slice none 0 0,none,false,false⟩:=by kernel_rfl
@[simp] theorem T_63:T 63=some ⟨.struct #[⟨ "Deleted",59,0,false, "", "",0⟩,⟨ "Weight",2,1,false, "", "",24⟩,⟨ "Proof",62,2,false, "", "",32⟩],3,56,.agg [.nilS,.int .i64 0,.nilS],.agg #[.slice none 0 0,.int .i64 0,.slice none 0 0],none,true,false⟩:=by kernel_rfl
@[simp] theorem T_64:T 64=some ⟨.struct #[⟨ "Deleted",59,0,false, "", "",0⟩,⟨ "Weight",2,1,false, "", "",24⟩,⟨ "Proof",62,2,false, "", "",32⟩],3,56,.agg [.nilS,.int .i64 0,.nilS],.agg #[.slice none 0 0,.int .i64 0,.slice none 0 0],none,true,false⟩:=by kernel_rfl
@[simp] theorem T_66:T 66=some ⟨.func #[33,9,58,59,3] #[64,36] false,1,8,.nilFn,.nilFunc,none,false,false⟩:=by kernel_rfl
@[simp] theorem T_67:T 67=some ⟨.slice 116,1,24,.nilS,.slice none 0 0,none,false,false⟩:=by kernel_rfl
@[simp] theorem T_68:T 68=some ⟨.slice 67,1,24,.nilS,.slice none 0 0,none,false,false⟩:=by kernel_rfl
@[simp] theorem T_69:T 69=some ⟨.struct #[⟨ "Cells",67,0,false, "", "",0⟩,⟨ "Table",29,1,false, "", "",24⟩,⟨ "Cores",68,4,false, "", "",88⟩,⟨ "Proof",62,5,false, "", "",112⟩],6,136,.agg [.nilS,.str kI,.nilS,.nilS,.nilS,.nilS],.agg #[.slice none 0 0,.string kI,.slice none 0 0,.slice none 0 0,.slice none 0 0,.slice none 0 0],none,true,false⟩:=by kernel_rfl
@[simp] theorem T_70:T 70=some ⟨.struct #[⟨ "Cells",67,0,false, "", "",0⟩,⟨ "Table",29,1,false, "", "",24⟩,⟨ "Cores",68,4,false, "", "",88⟩,⟨ "Proof",62,5,false, "", "",112⟩],6,136,.agg [.nilS,.str kI,.nilS,.nilS,.nilS,.nilS],.agg #[.slice none 0 0,.string kI,.slice none 0 0,.slice none 0 0,.slice none 0 0,.slice none 0 0],none,true,false⟩:=by kernel_rfl
@[simp] theorem T_72:T 72=some ⟨.func #[33,9,137,3] #[70,36] false,1,8,.nilFn,.nilFunc,none,false,false⟩:=by kernel_rfl
@[simp] theorem T_73:T 73=some ⟨.slice 59,1,24,.nilS,.slice none 0 0,none,false,false⟩:=by kernel_rfl
@[simp] theorem T_74:T 74=some ⟨.struct #[⟨ "Table",29,0,false, "", "",0⟩,⟨ "Clusters",73,3,false, "", "",64⟩,⟨ "Origins",73,4,false, "", "",88⟩],5,112,.agg [.str kI,.nilS,.nilS,.nilS,.nilS],.agg #[.string kI,.slice none 0 0,.slice none 0 0,.slice none 0 0,.slice none 0 0],none,true,false⟩:=by kernel_rfl
@[simp] theorem T_75:T 75=some ⟨.struct #[⟨ "Table",29,0,false, "", "",0⟩,⟨ "Clusters",73,3,false, "", "",64⟩,⟨ "Origins",73,4,false, "", "",88⟩],5,112,.agg [.str kI,.nilS,.nilS,.nilS,.nilS],.agg #[.string kI,.slice none 0 0,.slice none 0 0,.slice none 0 0,.slice none 0 0],none,true,false⟩:=by kernel_rfl
@[simp] theorem T_77:T 77=some ⟨.func #[33,9,81] #[75,36] false,1,8,.nilFn,.nilFunc,none,false,false⟩:=by kernel_rfl
@[simp] theorem T_78:T 78=some ⟨.slice 392,1,24,.nilS,.slice none 0 0,none,false,false⟩:=by kernel_rfl
@[simp] theorem T_79:T 79=some ⟨.slice 3,1,24,.nilS,.slice none 0 0,none,false,false⟩:=by kernel_rfl
@[simp] theorem T_80:T 80=some ⟨.struct #[⟨ "Rules",78,0,false, "", "",0⟩,⟨ "Block",79,1,false, "", "",24⟩,⟨ "Survive",79,2,false, "", "",48⟩],3,72,.agg [.nilS,.nilS,.nilS],.agg #[.slice none 0 0,.slice none 0 0,.slice none 0 0],none,true,false⟩:=by kernel_rfl
@[simp] theorem T_81:T 81=some ⟨.struct #[⟨ "Rules",78,0,false, "", "",0⟩,⟨ "Block",79,1,false, "", "",24⟩,⟨ "Survive",79,2,false, "", "",48⟩],3,72,.agg [.nilS,.nilS,.nilS],.agg #[.slice none 0 0,.slice none 0 0,.slice none 0 0],none,true,false⟩:=by kernel_rfl
@[simp] theorem T_82:T 82=some ⟨.func #[57,4,9] #[4] false,1,8,.nilFn,.nilFunc,none,false,false⟩:=by kernel_rfl
@[simp] theorem T_83:T 83=some ⟨.func #[24,3] #[29] false,1,8,.nilFn,.nilFunc,none,false,false⟩:=by kernel_rfl
@[simp] theorem T_84:T 84=some ⟨.func #[2,2,2] #[41] false,1,8,.nilFn,.nilFunc,none,false,false⟩:=by kernel_rfl
@[simp] theorem T_85:T 85=some ⟨.int .u32,1,4,.int .u32 0,.int .u32 0,some (.int .u32),false,false⟩:=by kernel_rfl
@[simp] theorem T_86:T 86=some ⟨.int .u32,1,4,.int .u32 0,.int .u32 0,some (.int .u32),false,false⟩:=by kernel_rfl
@[simp] theorem T_87:T 87=some ⟨.struct #[⟨ "Lhs",86,0,false, "", "",0⟩,⟨ "Rhs",86,1,false, "", "",4⟩],2,8,.agg [.int .u32 0,.int .u32 0],.agg #[.int .u32 0,.int .u32 0],none,true,false⟩:=by kernel_rfl
@[simp] theorem T_88:T 88=some ⟨.struct #[⟨ "Lhs",86,0,false, "", "",0⟩,⟨ "Rhs",86,1,false, "", "",4⟩],2,8,.agg [.int .u32 0,.int .u32 0],.agg #[.int .u32 0,.int .u32 0],none,true,false⟩:=by kernel_rfl
@[simp] theorem T_89:T 89=some ⟨.struct #[⟨ "Lhs",86,0,false, "", "",0⟩,⟨ "Rhs",86,1,false, "", "",4⟩],2,8,.agg [.int .u32 0,.int .u32 0],.agg #[.int .u32 0,.int .u32 0],none,true,false⟩:=by kernel_rfl
@[simp] theorem T_90:T 90=some ⟨.struct #[⟨ "From",9,0,false, "", "",0⟩,⟨ "Lhs",79,1,false, "", "",16⟩,⟨ "To",9,2,false, "", "",40⟩,⟨ "Rhs",79,3,false, "", "",56⟩],4,80,.agg [.str kI,.nilS,.str kI,.nilS],.agg #[.string kI,.slice none 0 0,.string kI,.slice none 0 0],none,true,false⟩:=by kernel_rfl
@[simp] theorem T_91:T 91=some ⟨.struct #[⟨ "From",9,0,false, "", "",0⟩,⟨ "Lhs",79,1,false, "", "",16⟩,⟨ "To",9,2,false, "", "",40⟩,⟨ "Rhs",79,3,false, "", "",56⟩],4,80,.agg [.str kI,.nilS,.str kI,.nilS],.agg #[.string kI,.slice none 0 0,.string kI,.slice none 0 0],none,true,false⟩:=by kernel_rfl
@[simp] theorem T_92:T 92=some ⟨.slice 290,1,24,.nilS,.slice none 0 0,none,false,false⟩:=by kernel_rfl
@[simp] theorem T_93:T 93=some ⟨.struct #[⟨ "Lhs",79,0,false, "", "",0⟩,⟨ "Rhs",3,1,false, "", "",24⟩,⟨ "Pattern",92,2,false, "", "",32⟩],3,56,.agg [.nilS,.int .i64 0,.nilS],.agg #[.slice none 0 0,.int .i64 0,.slice none 0 0],none,true,false⟩:=by kernel_rfl
@[simp] theorem T_94:T 94=some ⟨.struct #[⟨ "Lhs",79,0,false, "", "",0⟩,⟨ "Rhs",3,1,false, "", "",24⟩,⟨ "Pattern",92,2,false, "", "",32⟩],3,56,.agg [.nilS,.int .i64 0,.nilS],.agg #[.slice none 0 0,.int .i64 0,.slice none 0 0],none,true,false⟩:=by kernel_rfl
@[simp] theorem T_95:T 95=some ⟨.struct #[⟨ "Lhs",79,0,false, "", "",0⟩,⟨ "Rhs",79,1,false, "", "",24⟩],2,48,.agg [.nilS,.nilS],.agg #[.slice none 0 0,.slice none 0 0],none,true,false⟩:=by kernel_rfl
@[simp] theorem T_96:T 96=some ⟨.struct #[⟨ "Lhs",79,0,false, "", "",0⟩,⟨ "Rhs",79,1,false, "", "",24⟩],2,48,.agg [.nilS,.nilS],.agg #[.slice none 0 0,.slice none 0 0],none,true,false⟩:=by kernel_rfl
@[simp] theorem T_97:T 97=some ⟨.slice 300,1,24,.nilS,.slice none 0 0,none,false,false⟩:=by kernel_rfl
@[simp] theorem T_98:T 98=some ⟨.struct #[⟨ "Vars",3,0,false, "", "",0⟩,⟨ "Atoms",97,1,false, "", "",8⟩],2,32,.agg [.int .i64 0,.nilS],.agg #[.int .i64 0,.slice none 0 0],none,true,false⟩:=by kernel_rfl
@[simp] theorem T_99:T 99=some ⟨.struct #[⟨ "Vars",3,0,false, "", "",0⟩,⟨ "Atoms",97,1,false, "", "",8⟩],2,32,.agg [.int .i64 0,.nilS],.agg #[.int .i64 0,.slice none 0 0],none,true,false⟩:=by kernel_rfl
@[simp] theorem T_100:T 100=some ⟨.struct #[⟨ "Name",9,0,false, "", "",0⟩,⟨ "Table",9,1,false, "", "",16⟩,⟨ "Kind",3,2,false, "", "",32⟩,⟨ "FD",88,3,false, "", "",40⟩,⟨ "MVD",89,5,false, "", "",48⟩,⟨ "IND",91,7,false, "", "",56⟩,⟨ "CFD",94,11,false, "", "",136⟩,⟨ "OD",96,14,false, "", "",192⟩,⟨ "Denial",99,16,false, "", "",240⟩],18,272,.agg [.str kI,.str kI,.int .i64 0,.int .u32 0,.int .u32 0,.int .u32 0,.int .u32 0,.str kI,.nilS,.str kI,.nilS,.nilS,.int .i64 0,.nilS,.nilS,.nilS,.int .i64 0,.nilS],.agg #[.string kI,.string kI,.int .i64 0,.int .u32 0,.int .u32 0,.int .u32 0,.int .u32 0,.string kI,.slice none 0 0,.string kI,.slice none 0 0,.slice none 0 0,.int .i64 0,.slice none 0 0,.slice none 0 0,.slice none 0 0,.int .i64 0,.slice none 0 0],none,true,false⟩:=by kernel_rfl
@[simp] theorem T_101:T 101=some ⟨.struct #[⟨ "Name",9,0,false, "", "",0⟩,⟨ "Table",9,1,false, "", "",16⟩,⟨ "Kind",3,2,false, "", "",32⟩,⟨ "FD",88,3,false, "", "",40⟩,⟨ "MVD",89,5,false, "", "",48⟩,⟨ "IND",91,7,false, "", "",56⟩,⟨ "CFD",94,11,false, "", "",136⟩,⟨ "OD",96,14,false, "", "",192⟩,⟨ "Denial",99,16,false, "", "",240⟩],18,272,.agg [.str kI,.str kI,.int .i64 0,.int .u32 0,.int .u32 0,.int .u32 0,.int .u32 0,.str kI,.nilS,.str kI,.nilS,.nilS,.int .i64 0,.nilS,.nilS,.nilS,.int .i64 0,.nilS],.agg #[.string kI,.string kI,.int .i64 0,.int .u32 0,.int .u32 0,.int .u32 0,.int .u32 0,.string kI,.slice none 0 0,.string kI,.slice none 0 0,.slice none 0 0,.int .i64 0,.slice none 0 0,.slice none 0 0,.slice none 0 0,.int .i64 0,.slice none 0 0],none,true,false⟩:=by kernel_rfl
@[simp] theorem T_103:T 103=some ⟨.func #[29,58,3] #[3,3,36] false,1,8,.nilFn,.nilFunc,none,false,false⟩:=by kernel_rfl
@[simp] theorem T_104:T 104=some ⟨.func #[] #[33] false,1,8,.nilFn,.nilFunc,none,false,false⟩:=by kernel_rfl
@[simp] theorem T_105:T 105=some ⟨.func #[29] #[36] false,1,8,.nilFn,.nilFunc,none,false,false⟩:=by kernel_rfl
@[simp] theorem T_107:T 107=some ⟨.func #[33,9] #[29,36] false,1,8,.nilFn,.nilFunc,none,false,false⟩:=by kernel_rfl
@[simp] theorem T_108:T 108=some ⟨.func #[29,25] #[4] false,1,8,.nilFn,.nilFunc,none,false,false⟩:=by kernel_rfl
@[simp] theorem T_110:T 110=some ⟨.func #[29,2] #[3,4] false,1,8,.nilFn,.nilFunc,none,false,false⟩:=by kernel_rfl
@[simp] theorem T_111:T 111=some ⟨.func #[39,39] #[4] false,1,8,.nilFn,.nilFunc,none,false,false⟩:=by kernel_rfl
@[simp] theorem T_112:T 112=some ⟨.func #[29,41] #[29,36] false,1,8,.nilFn,.nilFunc,none,false,false⟩:=by kernel_rfl
@[simp] theorem T_113:T 113=some ⟨.func #[29,2] #[29,36] false,1,8,.nilFn,.nilFunc,none,false,false⟩:=by kernel_rfl
@[simp] theorem T_114:T 114=some ⟨.func #[29,116,43] #[29,36] false,1,8,.nilFn,.nilFunc,none,false,false⟩:=by kernel_rfl
@[simp] theorem T_115:T 115=some ⟨.struct #[⟨ "ID",2,0,false, "", "",0⟩,⟨ "Attr",3,1,false, "", "",8⟩],2,16,.agg [.int .i64 0,.int .i64 0],.agg #[.int .i64 0,.int .i64 0],none,true,false⟩:=by kernel_rfl
@[simp] theorem T_116:T 116=some ⟨.struct #[⟨ "ID",2,0,false, "", "",0⟩,⟨ "Attr",3,1,false, "", "",8⟩],2,16,.agg [.int .i64 0,.int .i64 0],.agg #[.int .i64 0,.int .i64 0],none,true,false⟩:=by kernel_rfl
@[simp] theorem T_117:T 117=some ⟨.slice 29,1,24,.nilS,.slice none 0 0,none,false,false⟩:=by kernel_rfl
@[simp] theorem T_118:T 118=some ⟨.struct #[⟨ "Tables",117,0,false, "", "",0⟩],1,24,.agg [.nilS],.agg #[.slice none 0 0],none,true,false⟩:=by kernel_rfl
@[simp] theorem T_119:T 119=some ⟨.struct #[⟨ "Tables",117,0,false, "", "",0⟩],1,24,.agg [.nilS],.agg #[.slice none 0 0],none,true,false⟩:=by kernel_rfl
@[simp] theorem T_120:T 120=some ⟨.func #[] #[119] false,1,8,.nilFn,.nilFunc,none,false,false⟩:=by kernel_rfl
@[simp] theorem T_121:T 121=some ⟨.func #[] #[25] false,1,8,.nilFn,.nilFunc,none,false,false⟩:=by kernel_rfl
@[simp] theorem T_122:T 122=some ⟨.func #[29,29] #[4] false,1,8,.nilFn,.nilFunc,none,false,false⟩:=by kernel_rfl
@[simp] theorem T_123:T 123=some ⟨.func #[25,25] #[4] false,1,8,.nilFn,.nilFunc,none,false,false⟩:=by kernel_rfl
@[simp] theorem T_124:T 124=some ⟨.func #[43,43] #[3] false,1,8,.nilFn,.nilFunc,none,false,false⟩:=by kernel_rfl
@[simp] theorem T_125:T 125=some ⟨.slice 25,1,24,.nilS,.slice none 0 0,none,false,false⟩:=by kernel_rfl
@[simp] theorem T_126:T 126=some ⟨.struct #[⟨ "db",119,0,false, "", "dross/store",0⟩,⟨ "done",125,1,false, "", "dross/store",24⟩,⟨ "undone",125,2,false, "", "dross/store",48⟩,⟨ "open",4,3,false, "", "dross/store",72⟩,⟨ "now",25,4,false, "", "dross/store",80⟩],5,104,.agg [.nilS,.nilS,.nilS,.bool false,.nilS],.agg #[.slice none 0 0,.slice none 0 0,.slice none 0 0,.bool false,.slice none 0 0],none,true,false⟩:=by kernel_rfl
@[simp] theorem T_127:T 127=some ⟨.struct #[⟨ "db",119,0,false, "", "dross/store",0⟩,⟨ "done",125,1,false, "", "dross/store",24⟩,⟨ "undone",125,2,false, "", "dross/store",48⟩,⟨ "open",4,3,false, "", "dross/store",72⟩,⟨ "now",25,4,false, "", "dross/store",80⟩],5,104,.agg [.nilS,.nilS,.nilS,.bool false,.nilS],.agg #[.slice none 0 0,.slice none 0 0,.slice none 0 0,.bool false,.slice none 0 0],none,true,false⟩:=by kernel_rfl
@[simp] theorem T_128:T 128=some ⟨.func #[25] #[] false,1,8,.nilFn,.nilFunc,none,false,false⟩:=by kernel_rfl
@[simp] theorem T_129:T 129=some ⟨.func #[26,26] #[4] false,1,8,.nilFn,.nilFunc,none,false,false⟩:=by kernel_rfl
@[simp] theorem T_130:T 130=some ⟨.func #[41] #[41] false,1,8,.nilFn,.nilFunc,none,false,false⟩:=by kernel_rfl
@[simp] theorem T_131:T 131=some ⟨.func #[125] #[25] true,1,8,.nilFn,.nilFunc,none,false,false⟩:=by kernel_rfl
@[simp] theorem T_133:T 133=some ⟨.func #[3,54] #[58,4] false,1,8,.nilFn,.nilFunc,none,false,false⟩:=by kernel_rfl
@[simp] theorem T_134:T 134=some ⟨.func #[29,58,59,3] #[64,36] false,1,8,.nilFn,.nilFunc,none,false,false⟩:=by kernel_rfl
@[simp] theorem T_135:T 135=some ⟨.func #[33,29,29,36] #[36] false,1,8,.nilFn,.nilFunc,none,false,false⟩:=by kernel_rfl
@[simp] theorem T_136:T 136=some ⟨.func #[29,59] #[29] false,1,8,.nilFn,.nilFunc,none,false,false⟩:=by kernel_rfl
@[simp] theorem T_137:T 137=some ⟨.slice 88,1,24,.nilS,.slice none 0 0,none,false,false⟩:=by kernel_rfl
@[simp] theorem T_138:T 138=some ⟨.func #[29,137,3] #[70,36] false,1,8,.nilFn,.nilFunc,none,false,false⟩:=by kernel_rfl
@[simp] theorem T_139:T 139=some ⟨.func #[29,81] #[75,36] false,1,8,.nilFn,.nilFunc,none,false,false⟩:=by kernel_rfl
@[simp] theorem T_140:T 140=some ⟨.func #[] #[25,36] false,1,8,.nilFn,.nilFunc,none,false,false⟩:=by kernel_rfl
@[simp] theorem T_141:T 141=some ⟨.func #[5] #[43] false,1,8,.nilFn,.nilFunc,none,false,false⟩:=by kernel_rfl
@[simp] theorem T_142:T 142=some ⟨.func #[45] #[36] false,1,8,.nilFn,.nilFunc,none,false,false⟩:=by kernel_rfl
@[simp] theorem T_143:T 143=some ⟨.func #[29] #[29] false,1,8,.nilFn,.nilFunc,none,false,false⟩:=by kernel_rfl
@[simp] theorem T_144:T 144=some ⟨.func #[9,41] #[36] false,1,8,.nilFn,.nilFunc,none,false,false⟩:=by kernel_rfl
@[simp] theorem T_145:T 145=some ⟨.func #[9,2] #[36] false,1,8,.nilFn,.nilFunc,none,false,false⟩:=by kernel_rfl
@[simp] theorem T_146:T 146=some ⟨.func #[9,116,43] #[36] false,1,8,.nilFn,.nilFunc,none,false,false⟩:=by kernel_rfl
@[simp] theorem T_147:T 147=some ⟨.func #[39,39] #[3] false,1,8,.nilFn,.nilFunc,none,false,false⟩:=by kernel_rfl
@[simp] theorem T_148:T 148=some ⟨.func #[39] #[4] false,1,8,.nilFn,.nilFunc,none,false,false⟩:=by kernel_rfl
@[simp] theorem T_149:T 149=some ⟨.func #[29,27] #[29] false,1,8,.nilFn,.nilFunc,none,false,false⟩:=by kernel_rfl
@[simp] theorem T_150:T 150=some ⟨.func #[43] #[4] false,1,8,.nilFn,.nilFunc,none,false,false⟩:=by kernel_rfl
@[simp] theorem T_151:T 151=some ⟨.func #[41,41] #[4] false,1,8,.nilFn,.nilFunc,none,false,false⟩:=by kernel_rfl
@[simp] theorem T_152:T 152=some ⟨.func #[45,45] #[4] false,1,8,.nilFn,.nilFunc,none,false,false⟩:=by kernel_rfl
@[simp] theorem T_153:T 153=some ⟨.func #[2,2] #[3] false,1,8,.nilFn,.nilFunc,none,false,false⟩:=by kernel_rfl
@[simp] theorem T_154:T 154=some ⟨.func #[9,9] #[3] false,1,8,.nilFn,.nilFunc,none,false,false⟩:=by kernel_rfl
@[simp] theorem T_155:T 155=some ⟨.func #[211] #[] false,1,8,.nilFn,.nilFunc,none,false,false⟩:=by kernel_rfl
@[simp] theorem T_156:T 156=some ⟨.func #[211] #[] false,1,8,.nilFn,.nilFunc,none,false,false⟩:=by kernel_rfl
@[simp] theorem T_157:T 157=some ⟨.func #[25] #[156] false,1,8,.nilFn,.nilFunc,none,false,false⟩:=by kernel_rfl
@[simp] theorem T_158:T 158=some ⟨.func #[117] #[117] false,1,8,.nilFn,.nilFunc,none,false,false⟩:=by kernel_rfl
@[simp] theorem T_160:T 160=some ⟨.func #[119,45] #[119,36] false,1,8,.nilFn,.nilFunc,none,false,false⟩:=by kernel_rfl
@[simp] theorem T_161:T 161=some ⟨.func #[45] #[45] false,1,8,.nilFn,.nilFunc,none,false,false⟩:=by kernel_rfl
@[simp] theorem T_162:T 162=some ⟨.func #[9] #[4] false,1,8,.nilFn,.nilFunc,none,false,false⟩:=by kernel_rfl
@[simp] theorem T_163:T 163=some ⟨.func #[26,9] #[4] false,1,8,.nilFn,.nilFunc,none,false,false⟩:=by kernel_rfl
@[simp] theorem T_164:T 164=some ⟨.func #[27,165] #[3] false,1,8,.nilFn,.nilFunc,none,false,false⟩:=by kernel_rfl
@[simp] theorem T_165:T 165=some ⟨.func #[41] #[4] false,1,8,.nilFn,.nilFunc,none,false,false⟩:=by kernel_rfl
@[simp] theorem T_166:T 166=some ⟨.func #[39] #[39] false,1,8,.nilFn,.nilFunc,none,false,false⟩:=by kernel_rfl
@[simp] theorem T_167:T 167=some ⟨.func #[25,3] #[25] false,1,8,.nilFn,.nilFunc,none,false,false⟩:=by kernel_rfl
@[simp] theorem T_169:T 169=some ⟨.func #[3,180] #[101,4] false,1,8,.nilFn,.nilFunc,none,false,false⟩:=by kernel_rfl
@[simp] theorem T_170:T 170=some ⟨.struct #[⟨ "L",5,0,false, "", "",0⟩,⟨ "R",5,1,false, "", "",1⟩],2,2,.agg [.int .u8 0,.int .u8 0],.agg #[.int .u8 0,.int .u8 0],none,true,false⟩:=by kernel_rfl
@[simp] theorem T_171:T 171=some ⟨.struct #[⟨ "L",5,0,false, "", "",0⟩,⟨ "R",5,1,false, "", "",1⟩],2,2,.agg [.int .u8 0,.int .u8 0],.agg #[.int .u8 0,.int .u8 0],none,true,false⟩:=by kernel_rfl
@[simp] theorem T_172:T 172=some ⟨.struct #[⟨ "Lhs",5,0,false, "", "",0⟩,⟨ "Rhs",5,1,false, "", "",1⟩,⟨ "Codes",55,2,false, "", "",8⟩],3,32,.agg [.int .u8 0,.int .u8 0,.nilS],.agg #[.int .u8 0,.int .u8 0,.slice none 0 0],none,true,false⟩:=by kernel_rfl
@[simp] theorem T_173:T 173=some ⟨.struct #[⟨ "Lhs",5,0,false, "", "",0⟩,⟨ "Rhs",5,1,false, "", "",1⟩,⟨ "Codes",55,2,false, "", "",8⟩],3,32,.agg [.int .u8 0,.int .u8 0,.nilS],.agg #[.int .u8 0,.int .u8 0,.slice none 0 0],none,true,false⟩:=by kernel_rfl
@[simp] theorem T_174:T 174=some ⟨.struct #[⟨ "X",55,0,false, "", "",0⟩,⟨ "Y",55,1,false, "", "",24⟩],2,48,.agg [.nilS,.nilS],.agg #[.slice none 0 0,.slice none 0 0],none,true,false⟩:=by kernel_rfl
@[simp] theorem T_175:T 175=some ⟨.struct #[⟨ "X",55,0,false, "", "",0⟩,⟨ "Y",55,1,false, "", "",24⟩],2,48,.agg [.nilS,.nilS],.agg #[.slice none 0 0,.slice none 0 0],none,true,false⟩:=by kernel_rfl
@[simp] theorem T_176:T 176=some ⟨.slice 295,1,24,.nilS,.slice none 0 0,none,false,false⟩:=by kernel_rfl
@[simp] theorem T_177:T 177=some ⟨.struct #[⟨ "Vars",5,0,false, "", "",0⟩,⟨ "Atoms",176,1,false, "", "",8⟩],2,32,.agg [.int .u8 0,.nilS],.agg #[.int .u8 0,.slice none 0 0],none,true,false⟩:=by kernel_rfl
@[simp] theorem T_178:T 178=some ⟨.struct #[⟨ "Vars",5,0,false, "", "",0⟩,⟨ "Atoms",176,1,false, "", "",8⟩],2,32,.agg [.int .u8 0,.nilS],.agg #[.int .u8 0,.slice none 0 0],none,true,false⟩:=by kernel_rfl
@[simp] theorem T_179:T 179=some ⟨.struct #[⟨ "Kind",5,0,false, "", "",0⟩,⟨ "F",171,1,false, "", "",1⟩,⟨ "C",173,3,false, "", "",8⟩,⟨ "O",175,6,false, "", "",40⟩,⟨ "N",178,8,false, "", "",88⟩],10,120,.agg [.int .u8 0,.int .u8 0,.int .u8 0,.int .u8 0,.int .u8 0,.nilS,.nilS,.nilS,.int .u8 0,.nilS],.agg #[.int .u8 0,.int .u8 0,.int .u8 0,.int .u8 0,.int .u8 0,.slice none 0 0,.slice none 0 0,.slice none 0 0,.int .u8 0,.slice none 0 0],none,true,false⟩:=by kernel_rfl
@[simp] theorem T_180:T 180=some ⟨.struct #[⟨ "Kind",5,0,false, "", "",0⟩,⟨ "F",171,1,false, "", "",1⟩,⟨ "C",173,3,false, "", "",8⟩,⟨ "O",175,6,false, "", "",40⟩,⟨ "N",178,8,false, "", "",88⟩],10,120,.agg [.int .u8 0,.int .u8 0,.int .u8 0,.int .u8 0,.int .u8 0,.nilS,.nilS,.nilS,.int .u8 0,.nilS],.agg #[.int .u8 0,.int .u8 0,.int .u8 0,.int .u8 0,.int .u8 0,.slice none 0 0,.slice none 0 0,.slice none 0 0,.int .u8 0,.slice none 0 0],none,true,false⟩:=by kernel_rfl
@[simp] theorem T_181:T 181=some ⟨.slice 79,1,24,.nilS,.slice none 0 0,none,false,false⟩:=by kernel_rfl
@[simp] theorem T_182:T 182=some ⟨.struct #[⟨ "Weights",59,0,false, "", "",0⟩,⟨ "Edges",181,1,false, "", "",24⟩],2,48,.agg [.nilS,.nilS],.agg #[.slice none 0 0,.slice none 0 0],none,true,false⟩:=by kernel_rfl
@[simp] theorem T_183:T 183=some ⟨.struct #[⟨ "Weights",59,0,false, "", "",0⟩,⟨ "Edges",181,1,false, "", "",24⟩],2,48,.agg [.nilS,.nilS],.agg #[.slice none 0 0,.slice none 0 0],none,true,false⟩:=by kernel_rfl
@[simp] theorem T_185:T 185=some ⟨.func #[29,58,59] #[183,36] false,1,8,.nilFn,.nilFunc,none,false,false⟩:=by kernel_rfl
@[simp] theorem T_187:T 187=some ⟨.func #[183,3] #[79,2,36] false,1,8,.nilFn,.nilFunc,none,false,false⟩:=by kernel_rfl
@[simp] theorem T_189:T 189=some ⟨.func #[183,2,3] #[62,36] false,1,8,.nilFn,.nilFunc,none,false,false⟩:=by kernel_rfl
@[simp] theorem T_190:T 190=some ⟨.func #[59,2] #[4] false,1,8,.nilFn,.nilFunc,none,false,false⟩:=by kernel_rfl
@[simp] theorem T_191:T 191=some ⟨.func #[29,137,67] #[36] false,1,8,.nilFn,.nilFunc,none,false,false⟩:=by kernel_rfl
@[simp] theorem T_193:T 193=some ⟨.func #[68] #[183,67] false,1,8,.nilFn,.nilFunc,none,false,false⟩:=by kernel_rfl
@[simp] theorem T_194:T 194=some ⟨.func #[29,137,67] #[4] false,1,8,.nilFn,.nilFunc,none,false,false⟩:=by kernel_rfl
@[simp] theorem T_195:T 195=some ⟨.func #[29,137,67] #[29,36] false,1,8,.nilFn,.nilFunc,none,false,false⟩:=by kernel_rfl
@[simp] theorem T_196:T 196=some ⟨.func #[29,137,67] #[67] false,1,8,.nilFn,.nilFunc,none,false,false⟩:=by kernel_rfl
@[simp] theorem T_197:T 197=some ⟨.func #[29,67] #[67] false,1,8,.nilFn,.nilFunc,none,false,false⟩:=by kernel_rfl
@[simp] theorem T_198:T 198=some ⟨.func #[68,199] #[] false,1,8,.nilFn,.nilFunc,none,false,false⟩:=by kernel_rfl
@[simp] theorem T_199:T 199=some ⟨.func #[67,67] #[3] false,1,8,.nilFn,.nilFunc,none,false,false⟩:=by kernel_rfl
@[simp] theorem T_201:T 201=some ⟨.func #[29,81] #[73,36] false,1,8,.nilFn,.nilFunc,none,false,false⟩:=by kernel_rfl
@[simp] theorem T_202:T 202=some ⟨.func #[29,73,79] #[75,36] false,1,8,.nilFn,.nilFunc,none,false,false⟩:=by kernel_rfl
@[simp] theorem T_203:T 203=some ⟨.func #[26] #[26] false,1,8,.nilFn,.nilFunc,none,false,false⟩:=by kernel_rfl
@[simp] theorem T_204:T 204=some ⟨.func #[27,2,205] #[3,4] false,1,8,.nilFn,.nilFunc,none,false,false⟩:=by kernel_rfl
@[simp] theorem T_205:T 205=some ⟨.func #[41,2] #[3] false,1,8,.nilFn,.nilFunc,none,false,false⟩:=by kernel_rfl
@[simp] theorem T_206:T 206=some ⟨.func #[27,3,27] #[27] true,1,8,.nilFn,.nilFunc,none,false,false⟩:=by kernel_rfl
@[simp] theorem T_207:T 207=some ⟨.func #[282] #[27] true,1,8,.nilFn,.nilFunc,none,false,false⟩:=by kernel_rfl
@[simp] theorem T_209:T 209=some ⟨.func #[9,2] #[41,36] false,1,8,.nilFn,.nilFunc,none,false,false⟩:=by kernel_rfl
@[simp] theorem T_210:T 210=some ⟨.func #[26] #[4] false,1,8,.nilFn,.nilFunc,none,false,false⟩:=by kernel_rfl
@[simp] theorem T_211:T 211=some ⟨.func #[3,45] #[4] false,1,8,.nilFn,.nilFunc,none,false,false⟩:=by kernel_rfl
@[simp] theorem T_212:T 212=some ⟨.func #[119,29] #[36] false,1,8,.nilFn,.nilFunc,none,false,false⟩:=by kernel_rfl
@[simp] theorem T_213:T 213=some ⟨.func #[119,9] #[3] false,1,8,.nilFn,.nilFunc,none,false,false⟩:=by kernel_rfl
@[simp] theorem T_214:T 214=some ⟨.func #[26,9] #[3] false,1,8,.nilFn,.nilFunc,none,false,false⟩:=by kernel_rfl
@[simp] theorem T_215:T 215=some ⟨.func #[39,150] #[4] false,1,8,.nilFn,.nilFunc,none,false,false⟩:=by kernel_rfl
@[simp] theorem T_216:T 216=some ⟨.func #[3,173] #[94] false,1,8,.nilFn,.nilFunc,none,false,false⟩:=by kernel_rfl
@[simp] theorem T_217:T 217=some ⟨.func #[3,175] #[96] false,1,8,.nilFn,.nilFunc,none,false,false⟩:=by kernel_rfl
@[simp] theorem T_219:T 219=some ⟨.func #[3,178] #[99,4] false,1,8,.nilFn,.nilFunc,none,false,false⟩:=by kernel_rfl
@[simp] theorem T_220:T 220=some ⟨.func #[3,221] #[137] false,1,8,.nilFn,.nilFunc,none,false,false⟩:=by kernel_rfl
@[simp] theorem T_221:T 221=some ⟨.slice 171,1,24,.nilS,.slice none 0 0,none,false,false⟩:=by kernel_rfl
@[simp] theorem T_222:T 222=some ⟨.struct #[⟨ "Vertices",59,0,false, "", "",0⟩,⟨ "Edges",73,1,false, "", "",24⟩],2,48,.agg [.nilS,.nilS],.agg #[.slice none 0 0,.slice none 0 0],none,true,false⟩:=by kernel_rfl
@[simp] theorem T_223:T 223=some ⟨.struct #[⟨ "Vertices",59,0,false, "", "",0⟩,⟨ "Edges",73,1,false, "", "",24⟩],2,48,.agg [.nilS,.nilS],.agg #[.slice none 0 0,.slice none 0 0],none,true,false⟩:=by kernel_rfl
@[simp] theorem T_225:T 225=some ⟨.func #[29,58] #[223,36] false,1,8,.nilFn,.nilFunc,none,false,false⟩:=by kernel_rfl
@[simp] theorem T_226:T 226=some ⟨.func #[59] #[59] false,1,8,.nilFn,.nilFunc,none,false,false⟩:=by kernel_rfl
@[simp] theorem T_227:T 227=some ⟨.func #[59,2] #[3,4] false,1,8,.nilFn,.nilFunc,none,false,false⟩:=by kernel_rfl
@[simp] theorem T_228:T 228=some ⟨.func #[183] #[36] false,1,8,.nilFn,.nilFunc,none,false,false⟩:=by kernel_rfl
@[simp] theorem T_230:T 230=some ⟨.func #[183] #[79,36] false,1,8,.nilFn,.nilFunc,none,false,false⟩:=by kernel_rfl
@[simp] theorem T_232:T 232=some ⟨.func #[183,79] #[2,36] false,1,8,.nilFn,.nilFunc,none,false,false⟩:=by kernel_rfl
@[simp] theorem T_233:T 233=some ⟨.pointer 235,1,8,.nilP,.pointer none,none,false,false⟩:=by kernel_rfl
@[simp] theorem T_234:T 234=some ⟨.struct #[⟨ "l",79,0,false, "", "dross/hitset",0⟩,⟨ "weight",2,1,false, "", "dross/hitset",24⟩],2,32,.agg [.nilS,.int .i64 0],.agg #[.slice none 0 0,.int .i64 0],none,true,false⟩:=by kernel_rfl
@[simp] theorem T_235:T 235=some ⟨.struct #[⟨ "l",79,0,false, "", "dross/hitset",0⟩,⟨ "weight",2,1,false, "", "dross/hitset",24⟩],2,32,.agg [.nilS,.int .i64 0],.agg #[.slice none 0 0,.int .i64 0],none,true,false⟩:=by kernel_rfl
@[simp] theorem T_236:T 236=some ⟨.pointer 313,1,8,.nilP,.pointer none,none,false,false⟩:=by kernel_rfl
@[simp] theorem T_237:T 237=some ⟨.func #[183,3] #[236] false,1,8,.nilFn,.nilFunc,none,false,false⟩:=by kernel_rfl
@[simp] theorem T_238:T 238=some ⟨.func #[233,2] #[4] false,1,8,.nilFn,.nilFunc,none,false,false⟩:=by kernel_rfl
@[simp] theorem T_239:T 239=some ⟨.func #[2] #[62,36] false,1,8,.nilFn,.nilFunc,none,false,false⟩:=by kernel_rfl
@[simp] theorem T_240:T 240=some ⟨.func #[59,2] #[3] false,1,8,.nilFn,.nilFunc,none,false,false⟩:=by kernel_rfl
@[simp] theorem T_241:T 241=some ⟨.func #[3,137] #[36] false,1,8,.nilFn,.nilFunc,none,false,false⟩:=by kernel_rfl
@[simp] theorem T_242:T 242=some ⟨.func #[67] #[4] false,1,8,.nilFn,.nilFunc,none,false,false⟩:=by kernel_rfl
@[simp] theorem T_243:T 243=some ⟨.func #[68] #[67] true,1,8,.nilFn,.nilFunc,none,false,false⟩:=by kernel_rfl
@[simp] theorem T_244:T 244=some ⟨.func #[67,245] #[] false,1,8,.nilFn,.nilFunc,none,false,false⟩:=by kernel_rfl
@[simp] theorem T_245:T 245=some ⟨.func #[116,116] #[3] false,1,8,.nilFn,.nilFunc,none,false,false⟩:=by kernel_rfl
@[simp] theorem T_246:T 246=some ⟨.func #[67] #[67] false,1,8,.nilFn,.nilFunc,none,false,false⟩:=by kernel_rfl
@[simp] theorem T_247:T 247=some ⟨.func #[67,116,245] #[3,4] false,1,8,.nilFn,.nilFunc,none,false,false⟩:=by kernel_rfl
@[simp] theorem T_248:T 248=some ⟨.pointer 256,1,8,.nilP,.pointer none,none,false,false⟩:=by kernel_rfl
@[simp] theorem T_249:T 249=some ⟨.func #[29,67] #[248] false,1,8,.nilFn,.nilFunc,none,false,false⟩:=by kernel_rfl
@[simp] theorem T_250:T 250=some ⟨.func #[3,137] #[4] false,1,8,.nilFn,.nilFunc,none,false,false⟩:=by kernel_rfl
@[simp] theorem T_251:T 251=some ⟨.map 2 4,1,8,.nilM,.map none,none,false,false⟩:=by kernel_rfl
@[simp] theorem T_252:T 252=some ⟨.map 3 43,1,8,.nilM,.map none,none,false,false⟩:=by kernel_rfl
@[simp] theorem T_253:T 253=some ⟨.func #[3] #[3] false,1,8,.nilFn,.nilFunc,none,false,false⟩:=by kernel_rfl
@[simp] theorem T_254:T 254=some ⟨.slice 257,1,24,.nilS,.slice none 0 0,none,false,false⟩:=by kernel_rfl
@[simp] theorem T_255:T 255=some ⟨.struct #[⟨ "n",3,0,false, "", "dross/update",0⟩,⟨ "parent",79,1,false, "", "dross/update",8⟩,⟨ "known",254,2,false, "", "dross/update",32⟩],3,56,.agg [.int .i64 0,.nilS,.nilS],.agg #[.int .i64 0,.slice none 0 0,.slice none 0 0],none,true,false⟩:=by kernel_rfl
@[simp] theorem T_256:T 256=some ⟨.struct #[⟨ "n",3,0,false, "", "dross/update",0⟩,⟨ "parent",79,1,false, "", "dross/update",8⟩,⟨ "known",254,2,false, "", "dross/update",32⟩],3,56,.agg [.int .i64 0,.nilS,.nilS],.agg #[.int .i64 0,.slice none 0 0,.slice none 0 0],none,true,false⟩:=by kernel_rfl
@[simp] theorem T_257:T 257=some ⟨.pointer 43,1,8,.nilP,.pointer none,none,false,false⟩:=by kernel_rfl
@[simp] theorem T_259:T 259=some ⟨.func #[67,3] #[67] false,1,8,.nilFn,.nilFunc,none,false,false⟩:=by kernel_rfl
@[simp] theorem T_260:T 260=some ⟨.func #[68,3,3,3,199] #[] false,1,8,.nilFn,.nilFunc,none,false,false⟩:=by kernel_rfl
@[simp] theorem T_261:T 261=some ⟨.func #[262] #[3] false,1,8,.nilFn,.nilFunc,none,false,false⟩:=by kernel_rfl
@[simp] theorem T_262:T 262=some ⟨.int .u64,1,8,.int .u64 0,.int .u64 0,some (.int .u64),false,false⟩:=by kernel_rfl
@[simp] theorem T_263:T 263=some ⟨.func #[67,67,245] #[3] false,1,8,.nilFn,.nilFunc,none,false,false⟩:=by kernel_rfl
@[simp] theorem T_264:T 264=some ⟨.func #[29,81] #[36] false,1,8,.nilFn,.nilFunc,none,false,false⟩:=by kernel_rfl
@[simp] theorem T_265:T 265=some ⟨.slice 268,1,24,.nilS,.slice none 0 0,none,false,false⟩:=by kernel_rfl
@[simp] theorem T_266:T 266=some ⟨.func #[29,81] #[265] false,1,8,.nilFn,.nilFunc,none,false,false⟩:=by kernel_rfl
@[simp] theorem T_267:T 267=some ⟨.map 268 4,1,8,.nilM,.map none,none,false,false⟩:=by kernel_rfl
@[simp] theorem T_268:T 268=some ⟨.array 2 3,2,16,.agg [.int .i64 0,.int .i64 0],.agg #[.int .i64 0,.int .i64 0],some (.arr 2),true,false⟩:=by kernel_rfl
@[simp] theorem T_270:T 270=some ⟨.func #[3,265] #[181,36] false,1,8,.nilFn,.nilFunc,none,false,false⟩:=by kernel_rfl
@[simp] theorem T_271:T 271=some ⟨.func #[79,267] #[181,36] false,1,8,.nilFn,.nilFunc,none,false,false⟩:=by kernel_rfl
@[simp] theorem T_272:T 272=some ⟨.func #[73,273] #[] false,1,8,.nilFn,.nilFunc,none,false,false⟩:=by kernel_rfl
@[simp] theorem T_273:T 273=some ⟨.func #[59,59] #[3] false,1,8,.nilFn,.nilFunc,none,false,false⟩:=by kernel_rfl
@[simp] theorem T_274:T 274=some ⟨.func #[79,275] #[4] false,1,8,.nilFn,.nilFunc,none,false,false⟩:=by kernel_rfl
@[simp] theorem T_275:T 275=some ⟨.func #[3] #[4] false,1,8,.nilFn,.nilFunc,none,false,false⟩:=by kernel_rfl
@[simp] theorem T_276:T 276=some ⟨.func #[29,73] #[4] false,1,8,.nilFn,.nilFunc,none,false,false⟩:=by kernel_rfl
@[simp] theorem T_277:T 277=some ⟨.func #[73] #[73] false,1,8,.nilFn,.nilFunc,none,false,false⟩:=by kernel_rfl
@[simp] theorem T_279:T 279=some ⟨.func #[27,79] #[41,59,36] false,1,8,.nilFn,.nilFunc,none,false,false⟩:=by kernel_rfl
@[simp] theorem T_280:T 280=some ⟨.func #[27,27] #[4] false,1,8,.nilFn,.nilFunc,none,false,false⟩:=by kernel_rfl
@[simp] theorem T_281:T 281=some ⟨.func #[27,3] #[] false,1,8,.nilFn,.nilFunc,none,false,false⟩:=by kernel_rfl
@[simp] theorem T_282:T 282=some ⟨.slice 27,1,24,.nilS,.slice none 0 0,none,false,false⟩:=by kernel_rfl
@[simp] theorem T_283:T 283=some ⟨.func #[27,3] #[27] false,1,8,.nilFn,.nilFunc,none,false,false⟩:=by kernel_rfl
@[simp] theorem T_284:T 284=some ⟨.func #[5] #[4] false,1,8,.nilFn,.nilFunc,none,false,false⟩:=by kernel_rfl
@[simp] theorem T_285:T 285=some ⟨.func #[117,286] #[3] false,1,8,.nilFn,.nilFunc,none,false,false⟩:=by kernel_rfl
@[simp] theorem T_286:T 286=some ⟨.func #[29] #[4] false,1,8,.nilFn,.nilFunc,none,false,false⟩:=by kernel_rfl
@[simp] theorem T_287:T 287=some ⟨.func #[39,150] #[3] false,1,8,.nilFn,.nilFunc,none,false,false⟩:=by kernel_rfl
@[simp] theorem T_288:T 288=some ⟨.func #[86,3] #[4] false,1,8,.nilFn,.nilFunc,none,false,false⟩:=by kernel_rfl
@[simp] theorem T_289:T 289=some ⟨.struct #[⟨ "Any",4,0,false, "", "",0⟩,⟨ "Value",43,1,false, "", "",8⟩],4,40,.agg [.bool false,.int .i64 0,.int .i64 0,.str kI],.agg #[.bool false,.int .i64 0,.int .i64 0,.string kI],none,true,false⟩:=by kernel_rfl
@[simp] theorem T_290:T 290=some ⟨.struct #[⟨ "Any",4,0,false, "", "",0⟩,⟨ "Value",43,1,false, "", "",8⟩],4,40,.agg [.bool false,.int .i64 0,.int .i64 0,.str kI],.agg #[.bool false,.int .i64 0,.int .i64 0,.string kI],none,true,false⟩:=by kernel_rfl
@[simp] theorem T_291:T 291=some ⟨.func #[3,55] #[79] false,1,8,.nilFn,.nilFunc,none,false,false⟩:=by kernel_rfl
@[simp] theorem T_292:T 292=some ⟨.struct #[⟨ "Var",5,0,false, "", "",0⟩,⟨ "Code",5,1,false, "", "",1⟩],2,2,.agg [.int .u8 0,.int .u8 0],.agg #[.int .u8 0,.int .u8 0],none,true,false⟩:=by kernel_rfl
@[simp] theorem T_293:T 293=some ⟨.struct #[⟨ "Var",5,0,false, "", "",0⟩,⟨ "Code",5,1,false, "", "",1⟩],2,2,.agg [.int .u8 0,.int .u8 0],.agg #[.int .u8 0,.int .u8 0],none,true,false⟩:=by kernel_rfl
@[simp] theorem T_294:T 294=some ⟨.struct #[⟨ "Left",293,0,false, "", "",0⟩,⟨ "Op",5,2,false, "", "",2⟩,⟨ "Right",293,3,false, "", "",3⟩],5,5,.agg [.int .u8 0,.int .u8 0,.int .u8 0,.int .u8 0,.int .u8 0],.agg #[.int .u8 0,.int .u8 0,.int .u8 0,.int .u8 0,.int .u8 0],none,true,false⟩:=by kernel_rfl
@[simp] theorem T_295:T 295=some ⟨.struct #[⟨ "Left",293,0,false, "", "",0⟩,⟨ "Op",5,2,false, "", "",2⟩,⟨ "Right",293,3,false, "", "",3⟩],5,5,.agg [.int .u8 0,.int .u8 0,.int .u8 0,.int .u8 0,.int .u8 0],.agg #[.int .u8 0,.int .u8 0,.int .u8 0,.int .u8 0,.int .u8 0],none,true,false⟩:=by kernel_rfl
@[simp] theorem T_296:T 296=some ⟨.struct #[⟨ "Var",3,0,false, "", "",0⟩,⟨ "Attr",3,1,false, "", "",8⟩,⟨ "Value",43,2,false, "", "",16⟩],5,48,.agg [.int .i64 0,.int .i64 0,.int .i64 0,.int .i64 0,.str kI],.agg #[.int .i64 0,.int .i64 0,.int .i64 0,.int .i64 0,.string kI],none,true,false⟩:=by kernel_rfl
@[simp] theorem T_297:T 297=some ⟨.struct #[⟨ "Var",3,0,false, "", "",0⟩,⟨ "Attr",3,1,false, "", "",8⟩,⟨ "Value",43,2,false, "", "",16⟩],5,48,.agg [.int .i64 0,.int .i64 0,.int .i64 0,.int .i64 0,.str kI],.agg #[.int .i64 0,.int .i64 0,.int .i64 0,.int .i64 0,.string kI],none,true,false⟩:=by kernel_rfl
@[simp] theorem T_298:T 298=some ⟨.func #[3,3,293] #[297] false,1,8,.nilFn,.nilFunc,none,false,false⟩:=by kernel_rfl
@[simp] theorem T_299:T 299=some ⟨.struct #[⟨ "Left",297,0,false, "", "",0⟩,⟨ "Op",3,5,false, "", "",48⟩,⟨ "Right",297,6,false, "", "",56⟩],11,104,.agg [.int .i64 0,.int .i64 0,.int .i64 0,.int .i64 0,.str kI,.int .i64 0,.int .i64 0,.int .i64 0,.int .i64 0,.int .i64 0,.str kI],.agg #[.int .i64 0,.int .i64 0,.int .i64 0,.int .i64 0,.string kI,.int .i64 0,.int .i64 0,.int .i64 0,.int .i64 0,.int .i64 0,.string kI],none,true,false⟩:=by kernel_rfl
@[simp] theorem T_300:T 300=some ⟨.struct #[⟨ "Left",297,0,false, "", "",0⟩,⟨ "Op",3,5,false, "", "",48⟩,⟨ "Right",297,6,false, "", "",56⟩],11,104,.agg [.int .i64 0,.int .i64 0,.int .i64 0,.int .i64 0,.str kI,.int .i64 0,.int .i64 0,.int .i64 0,.int .i64 0,.int .i64 0,.str kI],.agg #[.int .i64 0,.int .i64 0,.int .i64 0,.int .i64 0,.string kI,.int .i64 0,.int .i64 0,.int .i64 0,.int .i64 0,.int .i64 0,.string kI],none,true,false⟩:=by kernel_rfl
@[simp] theorem T_301:T 301=some ⟨.func #[3] #[86] false,1,8,.nilFn,.nilFunc,none,false,false⟩:=by kernel_rfl
@[simp] theorem T_302:T 302=some ⟨.slice 99,1,24,.nilS,.slice none 0 0,none,false,false⟩:=by kernel_rfl
@[simp] theorem T_304:T 304=some ⟨.func #[29,101] #[302,36] false,1,8,.nilFn,.nilFunc,none,false,false⟩:=by kernel_rfl
@[simp] theorem T_305:T 305=some ⟨.func #[29,101] #[73,36] false,1,8,.nilFn,.nilFunc,none,false,false⟩:=by kernel_rfl
@[simp] theorem T_306:T 306=some ⟨.func #[2,2] #[4] false,1,8,.nilFn,.nilFunc,none,false,false⟩:=by kernel_rfl
@[simp] theorem T_307:T 307=some ⟨.func #[2] #[4] false,1,8,.nilFn,.nilFunc,none,false,false⟩:=by kernel_rfl
@[simp] theorem T_308:T 308=some ⟨.func #[79,309] #[] false,1,8,.nilFn,.nilFunc,none,false,false⟩:=by kernel_rfl
@[simp] theorem T_309:T 309=some ⟨.func #[3,3] #[3] false,1,8,.nilFn,.nilFunc,none,false,false⟩:=by kernel_rfl
@[simp] theorem T_310:T 310=some ⟨.func #[79] #[] false,1,8,.nilFn,.nilFunc,none,false,false⟩:=by kernel_rfl
@[simp] theorem T_311:T 311=some ⟨.func #[79,3] #[4] false,1,8,.nilFn,.nilFunc,none,false,false⟩:=by kernel_rfl
@[simp] theorem T_312:T 312=some ⟨.struct #[⟨ "in",183,0,false, "", "dross/hitset",0⟩,⟨ "marks",79,2,false, "", "dross/hitset",48⟩,⟨ "left",3,3,false, "", "dross/hitset",72⟩],4,80,.agg [.nilS,.nilS,.nilS,.int .i64 0],.agg #[.slice none 0 0,.slice none 0 0,.slice none 0 0,.int .i64 0],none,true,false⟩:=by kernel_rfl
@[simp] theorem T_313:T 313=some ⟨.struct #[⟨ "in",183,0,false, "", "dross/hitset",0⟩,⟨ "marks",79,2,false, "", "dross/hitset",48⟩,⟨ "left",3,3,false, "", "dross/hitset",72⟩],4,80,.agg [.nilS,.nilS,.nilS,.int .i64 0],.agg #[.slice none 0 0,.slice none 0 0,.slice none 0 0,.int .i64 0],none,true,false⟩:=by kernel_rfl
@[simp] theorem T_314:T 314=some ⟨.slice 378,1,24,.nilS,.slice none 0 0,none,false,false⟩:=by kernel_rfl
@[simp] theorem T_316:T 316=some ⟨.func #[] #[314,2] false,1,8,.nilFn,.nilFunc,none,false,false⟩:=by kernel_rfl
@[simp] theorem T_317:T 317=some ⟨.func #[] #[3] false,1,8,.nilFn,.nilFunc,none,false,false⟩:=by kernel_rfl
@[simp] theorem T_318:T 318=some ⟨.struct #[⟨ "Vertex",3,0,false, "", "",0⟩,⟨ "Shares",314,1,false, "", "",8⟩],2,32,.agg [.int .i64 0,.nilS],.agg #[.int .i64 0,.slice none 0 0],none,true,false⟩:=by kernel_rfl
@[simp] theorem T_319:T 319=some ⟨.struct #[⟨ "Vertex",3,0,false, "", "",0⟩,⟨ "Shares",314,1,false, "", "",8⟩],2,32,.agg [.int .i64 0,.nilS],.agg #[.int .i64 0,.slice none 0 0],none,true,false⟩:=by kernel_rfl
@[simp] theorem T_320:T 320=some ⟨.func #[379] #[62] true,1,8,.nilFn,.nilFunc,none,false,false⟩:=by kernel_rfl
@[simp] theorem T_321:T 321=some ⟨.func #[67,3,3,3,245] #[] false,1,8,.nilFn,.nilFunc,none,false,false⟩:=by kernel_rfl
@[simp] theorem T_322:T 322=some ⟨.func #[79] #[3] true,1,8,.nilFn,.nilFunc,none,false,false⟩:=by kernel_rfl
@[simp] theorem T_323:T 323=some ⟨.func #[3,3,86] #[4] false,1,8,.nilFn,.nilFunc,none,false,false⟩:=by kernel_rfl
@[simp] theorem T_324:T 324=some ⟨.func #[3,3] #[4] false,1,8,.nilFn,.nilFunc,none,false,false⟩:=by kernel_rfl
@[simp] theorem T_325:T 325=some ⟨.func #[68,3,3,199] #[] false,1,8,.nilFn,.nilFunc,none,false,false⟩:=by kernel_rfl
@[simp] theorem T_326:T 326=some ⟨.int .i64,1,8,.int .i64 0,.int .i64 0,some (.int .i64),false,false⟩:=by kernel_rfl
@[simp] theorem T_328:T 328=some ⟨.func #[68,3,3,199] #[3,326] false,1,8,.nilFn,.nilFunc,none,false,false⟩:=by kernel_rfl
@[simp] theorem T_329:T 329=some ⟨.func #[68,3,3,199] #[4] false,1,8,.nilFn,.nilFunc,none,false,false⟩:=by kernel_rfl
@[simp] theorem T_330:T 330=some ⟨.func #[68,3,3,3,199] #[3] false,1,8,.nilFn,.nilFunc,none,false,false⟩:=by kernel_rfl
@[simp] theorem T_331:T 331=some ⟨.func #[68,3,3,3,199] #[3,4] false,1,8,.nilFn,.nilFunc,none,false,false⟩:=by kernel_rfl
@[simp] theorem T_332:T 332=some ⟨.func #[85] #[3] false,1,8,.nilFn,.nilFunc,none,false,false⟩:=by kernel_rfl
@[simp] theorem T_333:T 333=some ⟨.func #[334] #[3] false,1,8,.nilFn,.nilFunc,none,false,false⟩:=by kernel_rfl
@[simp] theorem T_334:T 334=some ⟨.int .u64,1,8,.int .u64 0,.int .u64 0,some (.int .u64),false,false⟩:=by kernel_rfl
@[simp] theorem T_335:T 335=some ⟨.func #[3,81] #[36] false,1,8,.nilFn,.nilFunc,none,false,false⟩:=by kernel_rfl
@[simp] theorem T_336:T 336=some ⟨.func #[81,41,41] #[4] false,1,8,.nilFn,.nilFunc,none,false,false⟩:=by kernel_rfl
@[simp] theorem T_337:T 337=some ⟨.func #[81,41,41] #[3] false,1,8,.nilFn,.nilFunc,none,false,false⟩:=by kernel_rfl
@[simp] theorem T_338:T 338=some ⟨.func #[3,265] #[36] false,1,8,.nilFn,.nilFunc,none,false,false⟩:=by kernel_rfl
@[simp] theorem T_339:T 339=some ⟨.func #[3,265] #[181] false,1,8,.nilFn,.nilFunc,none,false,false⟩:=by kernel_rfl
@[simp] theorem T_340:T 340=some ⟨.func #[402] #[265] true,1,8,.nilFn,.nilFunc,none,false,false⟩:=by kernel_rfl
@[simp] theorem T_341:T 341=some ⟨.func #[265] #[265] false,1,8,.nilFn,.nilFunc,none,false,false⟩:=by kernel_rfl
@[simp] theorem T_342:T 342=some ⟨.slice 4,1,24,.nilS,.slice none 0 0,none,false,false⟩:=by kernel_rfl
@[simp] theorem T_343:T 343=some ⟨.func #[181,3] #[79] false,1,8,.nilFn,.nilFunc,none,false,false⟩:=by kernel_rfl
@[simp] theorem T_344:T 344=some ⟨.slice 346,1,24,.nilS,.slice none 0 0,none,false,false⟩:=by kernel_rfl
@[simp] theorem T_345:T 345=some ⟨.struct #[⟨ "I",3,0,false, "", "",0⟩,⟨ "K",3,1,false, "", "",8⟩,⟨ "Weight",2,2,false, "", "",16⟩],3,24,.agg [.int .i64 0,.int .i64 0,.int .i64 0],.agg #[.int .i64 0,.int .i64 0,.int .i64 0],none,true,false⟩:=by kernel_rfl
@[simp] theorem T_346:T 346=some ⟨.struct #[⟨ "I",3,0,false, "", "",0⟩,⟨ "K",3,1,false, "", "",8⟩,⟨ "Weight",2,2,false, "", "",16⟩],3,24,.agg [.int .i64 0,.int .i64 0,.int .i64 0],.agg #[.int .i64 0,.int .i64 0,.int .i64 0],none,true,false⟩:=by kernel_rfl
@[simp] theorem T_347:T 347=some ⟨.func #[3,344] #[79,2,36] false,1,8,.nilFn,.nilFunc,none,false,false⟩:=by kernel_rfl
@[simp] theorem T_348:T 348=some ⟨.func #[3,344] #[79,36] false,1,8,.nilFn,.nilFunc,none,false,false⟩:=by kernel_rfl
@[simp] theorem T_349:T 349=some ⟨.func #[79] #[181] false,1,8,.nilFn,.nilFunc,none,false,false⟩:=by kernel_rfl
@[simp] theorem T_350:T 350=some ⟨.func #[73,3,3,3,273] #[] false,1,8,.nilFn,.nilFunc,none,false,false⟩:=by kernel_rfl
@[simp] theorem T_351:T 351=some ⟨.func #[79,275] #[3] false,1,8,.nilFn,.nilFunc,none,false,false⟩:=by kernel_rfl
@[simp] theorem T_353:T 353=some ⟨.func #[73] #[251,4] false,1,8,.nilFn,.nilFunc,none,false,false⟩:=by kernel_rfl
@[simp] theorem T_354:T 354=some ⟨.func #[27,165] #[4] false,1,8,.nilFn,.nilFunc,none,false,false⟩:=by kernel_rfl
@[simp] theorem T_355:T 355=some ⟨.func #[27] #[36] false,1,8,.nilFn,.nilFunc,none,false,false⟩:=by kernel_rfl
@[simp] theorem T_357:T 357=some ⟨.func #[27,3,3] #[43,2] false,1,8,.nilFn,.nilFunc,none,false,false⟩:=by kernel_rfl
@[simp] theorem T_358:T 358=some ⟨.func #[3,88] #[302,36] false,1,8,.nilFn,.nilFunc,none,false,false⟩:=by kernel_rfl
@[simp] theorem T_359:T 359=some ⟨.func #[3,99] #[4] false,1,8,.nilFn,.nilFunc,none,false,false⟩:=by kernel_rfl
@[simp] theorem T_360:T 360=some ⟨.func #[3,94] #[4] false,1,8,.nilFn,.nilFunc,none,false,false⟩:=by kernel_rfl
@[simp] theorem T_361:T 361=some ⟨.func #[3,96] #[4] false,1,8,.nilFn,.nilFunc,none,false,false⟩:=by kernel_rfl
@[simp] theorem T_362:T 362=some ⟨.func #[29,94] #[73,36] false,1,8,.nilFn,.nilFunc,none,false,false⟩:=by kernel_rfl
@[simp] theorem T_363:T 363=some ⟨.func #[29,96] #[73,36] false,1,8,.nilFn,.nilFunc,none,false,false⟩:=by kernel_rfl
@[simp] theorem T_364:T 364=some ⟨.func #[29,99] #[73,36] false,1,8,.nilFn,.nilFunc,none,false,false⟩:=by kernel_rfl
@[simp] theorem T_365:T 365=some ⟨.map 366 4,1,8,.nilM,.map none,none,false,false⟩:=by kernel_rfl
@[simp] theorem T_366:T 366=some ⟨.array 3 2,3,24,.agg [.int .i64 0,.int .i64 0,.int .i64 0],.agg #[.int .i64 0,.int .i64 0,.int .i64 0],some (.arr 3),true,false⟩:=by kernel_rfl
@[simp] theorem T_367:T 367=some ⟨.func #[59] #[366] false,1,8,.nilFn,.nilFunc,none,false,false⟩:=by kernel_rfl
@[simp] theorem T_368:T 368=some ⟨.func #[73] #[59] true,1,8,.nilFn,.nilFunc,none,false,false⟩:=by kernel_rfl
@[simp] theorem T_369:T 369=some ⟨.func #[59] #[4] false,1,8,.nilFn,.nilFunc,none,false,false⟩:=by kernel_rfl
@[simp] theorem T_370:T 370=some ⟨.func #[73,371] #[73] false,1,8,.nilFn,.nilFunc,none,false,false⟩:=by kernel_rfl
@[simp] theorem T_371:T 371=some ⟨.func #[59,59] #[4] false,1,8,.nilFn,.nilFunc,none,false,false⟩:=by kernel_rfl
@[simp] theorem T_372:T 372=some ⟨.func #[79,3,309] #[] false,1,8,.nilFn,.nilFunc,none,false,false⟩:=by kernel_rfl
@[simp] theorem T_373:T 373=some ⟨.func #[79,3,3,3] #[] false,1,8,.nilFn,.nilFunc,none,false,false⟩:=by kernel_rfl
@[simp] theorem T_374:T 374=some ⟨.func #[79,3] #[3] false,1,8,.nilFn,.nilFunc,none,false,false⟩:=by kernel_rfl
@[simp] theorem T_375:T 375=some ⟨.func #[181,376] #[4] false,1,8,.nilFn,.nilFunc,none,false,false⟩:=by kernel_rfl
@[simp] theorem T_376:T 376=some ⟨.func #[79] #[4] false,1,8,.nilFn,.nilFunc,none,false,false⟩:=by kernel_rfl
@[simp] theorem T_377:T 377=some ⟨.struct #[⟨ "Edge",3,0,false, "", "",0⟩,⟨ "Amount",2,1,false, "", "",8⟩],2,16,.agg [.int .i64 0,.int .i64 0],.agg #[.int .i64 0,.int .i64 0],none,true,false⟩:=by kernel_rfl
@[simp] theorem T_378:T 378=some ⟨.struct #[⟨ "Edge",3,0,false, "", "",0⟩,⟨ "Amount",2,1,false, "", "",8⟩],2,16,.agg [.int .i64 0,.int .i64 0],.agg #[.int .i64 0,.int .i64 0],none,true,false⟩:=by kernel_rfl
@[simp] theorem T_379:T 379=some ⟨.slice 62,1,24,.nilS,.slice none 0 0,none,false,false⟩:=by kernel_rfl
@[simp] theorem T_380:T 380=some ⟨.func #[62,3] #[62] false,1,8,.nilFn,.nilFunc,none,false,false⟩:=by kernel_rfl
@[simp] theorem T_381:T 381=some ⟨.func #[67,3,3,245] #[] false,1,8,.nilFn,.nilFunc,none,false,false⟩:=by kernel_rfl
@[simp] theorem T_382:T 382=some ⟨.func #[67,3,3,245] #[3,326] false,1,8,.nilFn,.nilFunc,none,false,false⟩:=by kernel_rfl
@[simp] theorem T_383:T 383=some ⟨.func #[67,3,3,245] #[4] false,1,8,.nilFn,.nilFunc,none,false,false⟩:=by kernel_rfl
@[simp] theorem T_384:T 384=some ⟨.func #[67,3,3,3,245] #[3] false,1,8,.nilFn,.nilFunc,none,false,false⟩:=by kernel_rfl
@[simp] theorem T_385:T 385=some ⟨.func #[67,3,3,3,245] #[3,4] false,1,8,.nilFn,.nilFunc,none,false,false⟩:=by kernel_rfl
@[simp] theorem T_386:T 386=some ⟨.int .u64,1,8,.int .u64 0,.int .u64 0,some (.int .u64),false,false⟩:=by kernel_rfl
@[simp] theorem T_387:T 387=some ⟨.func #[3] #[262] false,1,8,.nilFn,.nilFunc,none,false,false⟩:=by kernel_rfl
@[simp] theorem T_388:T 388=some ⟨.func #[] #[334] false,1,8,.nilFn,.nilFunc,none,false,false⟩:=by kernel_rfl
@[simp] theorem T_389:T 389=some ⟨.func #[68,3,390,199] #[3] false,1,8,.nilFn,.nilFunc,none,false,false⟩:=by kernel_rfl
@[simp] theorem T_390:T 390=some ⟨.pointer 3,1,8,.nilP,.pointer none,none,false,false⟩:=by kernel_rfl
@[simp] theorem T_391:T 391=some ⟨.func #[68,3,3,3,390,199] #[3] false,1,8,.nilFn,.nilFunc,none,false,false⟩:=by kernel_rfl
@[simp] theorem T_392:T 392=some ⟨.slice 394,1,24,.nilS,.slice none 0 0,none,false,false⟩:=by kernel_rfl
@[simp] theorem T_393:T 393=some ⟨.struct #[⟨ "Attr",3,0,false, "", "",0⟩,⟨ "Measure",3,1,false, "", "",8⟩,⟨ "Limit",2,2,false, "", "",16⟩],3,24,.agg [.int .i64 0,.int .i64 0,.int .i64 0],.agg #[.int .i64 0,.int .i64 0,.int .i64 0],none,true,false⟩:=by kernel_rfl
@[simp] theorem T_394:T 394=some ⟨.struct #[⟨ "Attr",3,0,false, "", "",0⟩,⟨ "Measure",3,1,false, "", "",8⟩,⟨ "Limit",2,2,false, "", "",16⟩],3,24,.agg [.int .i64 0,.int .i64 0,.int .i64 0],.agg #[.int .i64 0,.int .i64 0,.int .i64 0],none,true,false⟩:=by kernel_rfl
@[simp] theorem T_396:T 396=some ⟨.func #[41,41,394] #[4,36] false,1,8,.nilFn,.nilFunc,none,false,false⟩:=by kernel_rfl
@[simp] theorem T_397:T 397=some ⟨.func #[79] #[79] false,1,8,.nilFn,.nilFunc,none,false,false⟩:=by kernel_rfl
@[simp] theorem T_398:T 398=some ⟨.func #[78,401] #[3] false,1,8,.nilFn,.nilFunc,none,false,false⟩:=by kernel_rfl
@[simp] theorem T_399:T 399=some ⟨.func #[392,400] #[4] false,1,8,.nilFn,.nilFunc,none,false,false⟩:=by kernel_rfl
@[simp] theorem T_400:T 400=some ⟨.func #[394] #[4] false,1,8,.nilFn,.nilFunc,none,false,false⟩:=by kernel_rfl
@[simp] theorem T_401:T 401=some ⟨.func #[392] #[4] false,1,8,.nilFn,.nilFunc,none,false,false⟩:=by kernel_rfl
@[simp] theorem T_402:T 402=some ⟨.slice 265,1,24,.nilS,.slice none 0 0,none,false,false⟩:=by kernel_rfl
@[simp] theorem T_403:T 403=some ⟨.func #[265,3] #[265] false,1,8,.nilFn,.nilFunc,none,false,false⟩:=by kernel_rfl
@[simp] theorem T_404:T 404=some ⟨.func #[3,344] #[36] false,1,8,.nilFn,.nilFunc,none,false,false⟩:=by kernel_rfl
@[simp] theorem T_405:T 405=some ⟨.pointer 408,1,8,.nilP,.pointer none,none,false,false⟩:=by kernel_rfl
@[simp] theorem T_406:T 406=some ⟨.func #[3,344] #[73] false,1,8,.nilFn,.nilFunc,none,false,false⟩:=by kernel_rfl
@[simp] theorem T_407:T 407=some ⟨.struct #[⟨ "w",73,0,false, "", "dross/cluster",0⟩,⟨ "labels",79,1,false, "", "dross/cluster",24⟩,⟨ "best",79,2,false, "", "dross/cluster",48⟩,⟨ "least",2,3,false, "", "dross/cluster",72⟩],4,80,.agg [.nilS,.nilS,.nilS,.int .i64 0],.agg #[.slice none 0 0,.slice none 0 0,.slice none 0 0,.int .i64 0],none,true,false⟩:=by kernel_rfl
@[simp] theorem T_408:T 408=some ⟨.struct #[⟨ "w",73,0,false, "", "dross/cluster",0⟩,⟨ "labels",79,1,false, "", "dross/cluster",24⟩,⟨ "best",79,2,false, "", "dross/cluster",48⟩,⟨ "least",2,3,false, "", "dross/cluster",72⟩],4,80,.agg [.nilS,.nilS,.nilS,.int .i64 0],.agg #[.slice none 0 0,.slice none 0 0,.slice none 0 0,.int .i64 0],none,true,false⟩:=by kernel_rfl
@[simp] theorem T_409:T 409=some ⟨.func #[3,3,2] #[] false,1,8,.nilFn,.nilFunc,none,false,false⟩:=by kernel_rfl
@[simp] theorem T_410:T 410=some ⟨.func #[79,3] #[79] false,1,8,.nilFn,.nilFunc,none,false,false⟩:=by kernel_rfl
@[simp] theorem T_411:T 411=some ⟨.func #[73,3,3,273] #[] false,1,8,.nilFn,.nilFunc,none,false,false⟩:=by kernel_rfl
@[simp] theorem T_412:T 412=some ⟨.func #[73,3,3,273] #[3,326] false,1,8,.nilFn,.nilFunc,none,false,false⟩:=by kernel_rfl
@[simp] theorem T_413:T 413=some ⟨.func #[73,3,3,273] #[4] false,1,8,.nilFn,.nilFunc,none,false,false⟩:=by kernel_rfl
@[simp] theorem T_414:T 414=some ⟨.func #[73,3,3,3,273] #[3] false,1,8,.nilFn,.nilFunc,none,false,false⟩:=by kernel_rfl
@[simp] theorem T_415:T 415=some ⟨.func #[73,3,3,3,273] #[3,4] false,1,8,.nilFn,.nilFunc,none,false,false⟩:=by kernel_rfl
@[simp] theorem T_416:T 416=some ⟨.func #[39,43,43,3] #[4] false,1,8,.nilFn,.nilFunc,none,false,false⟩:=by kernel_rfl
@[simp] theorem T_417:T 417=some ⟨.func #[27] #[] false,1,8,.nilFn,.nilFunc,none,false,false⟩:=by kernel_rfl
@[simp] theorem T_418:T 418=some ⟨.func #[86] #[79] false,1,8,.nilFn,.nilFunc,none,false,false⟩:=by kernel_rfl
@[simp] theorem T_419:T 419=some ⟨.func #[3,3] #[300] false,1,8,.nilFn,.nilFunc,none,false,false⟩:=by kernel_rfl
@[simp] theorem T_420:T 420=some ⟨.func #[97,422] #[4] false,1,8,.nilFn,.nilFunc,none,false,false⟩:=by kernel_rfl
@[simp] theorem T_421:T 421=some ⟨.func #[3,3,297] #[4] false,1,8,.nilFn,.nilFunc,none,false,false⟩:=by kernel_rfl
@[simp] theorem T_422:T 422=some ⟨.func #[300] #[4] false,1,8,.nilFn,.nilFunc,none,false,false⟩:=by kernel_rfl
@[simp] theorem T_423:T 423=some ⟨.func #[92,424] #[4] false,1,8,.nilFn,.nilFunc,none,false,false⟩:=by kernel_rfl
@[simp] theorem T_424:T 424=some ⟨.func #[290] #[4] false,1,8,.nilFn,.nilFunc,none,false,false⟩:=by kernel_rfl
@[simp] theorem T_425:T 425=some ⟨.func #[3,79] #[4] false,1,8,.nilFn,.nilFunc,none,false,false⟩:=by kernel_rfl
@[simp] theorem T_426:T 426=some ⟨.func #[94,39] #[4] false,1,8,.nilFn,.nilFunc,none,false,false⟩:=by kernel_rfl
@[simp] theorem T_427:T 427=some ⟨.func #[290,43] #[4] false,1,8,.nilFn,.nilFunc,none,false,false⟩:=by kernel_rfl
@[simp] theorem T_428:T 428=some ⟨.func #[94] #[290] false,1,8,.nilFn,.nilFunc,none,false,false⟩:=by kernel_rfl
@[simp] theorem T_429:T 429=some ⟨.func #[94,39,39] #[4] false,1,8,.nilFn,.nilFunc,none,false,false⟩:=by kernel_rfl
@[simp] theorem T_430:T 430=some ⟨.func #[29,275] #[36] false,1,8,.nilFn,.nilFunc,none,false,false⟩:=by kernel_rfl
@[simp] theorem T_431:T 431=some ⟨.func #[41,41,96] #[3] false,1,8,.nilFn,.nilFunc,none,false,false⟩:=by kernel_rfl
@[simp] theorem T_432:T 432=some ⟨.func #[29,99] #[36] false,1,8,.nilFn,.nilFunc,none,false,false⟩:=by kernel_rfl
@[simp] theorem T_433:T 433=some ⟨.func #[29,99,27,435] #[4] false,1,8,.nilFn,.nilFunc,none,false,false⟩:=by kernel_rfl
@[simp] theorem T_434:T 434=some ⟨.func #[59] #[] false,1,8,.nilFn,.nilFunc,none,false,false⟩:=by kernel_rfl
@[simp] theorem T_435:T 435=some ⟨.func #[27] #[4] false,1,8,.nilFn,.nilFunc,none,false,false⟩:=by kernel_rfl
@[simp] theorem T_436:T 436=some ⟨.func #[59,3] #[59] false,1,8,.nilFn,.nilFunc,none,false,false⟩:=by kernel_rfl
@[simp] theorem T_437:T 437=some ⟨.func #[79,3,3,309] #[] false,1,8,.nilFn,.nilFunc,none,false,false⟩:=by kernel_rfl
@[simp] theorem T_438:T 438=some ⟨.func #[79,3,3,3,309] #[] false,1,8,.nilFn,.nilFunc,none,false,false⟩:=by kernel_rfl
@[simp] theorem T_439:T 439=some ⟨.func #[79,3,3] #[] false,1,8,.nilFn,.nilFunc,none,false,false⟩:=by kernel_rfl
@[simp] theorem T_440:T 440=some ⟨.func #[79,3,3] #[3,326] false,1,8,.nilFn,.nilFunc,none,false,false⟩:=by kernel_rfl
@[simp] theorem T_441:T 441=some ⟨.func #[79,3,3] #[4] false,1,8,.nilFn,.nilFunc,none,false,false⟩:=by kernel_rfl
@[simp] theorem T_442:T 442=some ⟨.func #[79,3,3,3] #[3] false,1,8,.nilFn,.nilFunc,none,false,false⟩:=by kernel_rfl
@[simp] theorem T_443:T 443=some ⟨.func #[79,3,3,3] #[3,4] false,1,8,.nilFn,.nilFunc,none,false,false⟩:=by kernel_rfl
@[simp] theorem T_444:T 444=some ⟨.func #[181,376] #[3] false,1,8,.nilFn,.nilFunc,none,false,false⟩:=by kernel_rfl
@[simp] theorem T_445:T 445=some ⟨.func #[67,3,390,245] #[3] false,1,8,.nilFn,.nilFunc,none,false,false⟩:=by kernel_rfl
@[simp] theorem T_446:T 446=some ⟨.func #[67,3,3,3,390,245] #[3] false,1,8,.nilFn,.nilFunc,none,false,false⟩:=by kernel_rfl
@[simp] theorem T_447:T 447=some ⟨.pointer 386,1,8,.nilP,.pointer none,none,false,false⟩:=by kernel_rfl
@[simp] theorem T_449:T 449=some ⟨.func #[68,3,3,390,199] #[3,3] false,1,8,.nilFn,.nilFunc,none,false,false⟩:=by kernel_rfl
@[simp] theorem T_450:T 450=some ⟨.func #[9,9,3] #[4,36] false,1,8,.nilFn,.nilFunc,none,false,false⟩:=by kernel_rfl
@[simp] theorem T_451:T 451=some ⟨.struct #[⟨ "Num",2,0,false, "", "",0⟩,⟨ "Den",2,1,false, "", "",8⟩],2,16,.agg [.int .i64 0,.int .i64 0],.agg #[.int .i64 0,.int .i64 0],none,true,false⟩:=by kernel_rfl
@[simp] theorem T_452:T 452=some ⟨.struct #[⟨ "Num",2,0,false, "", "",0⟩,⟨ "Den",2,1,false, "", "",8⟩],2,16,.agg [.int .i64 0,.int .i64 0],.agg #[.int .i64 0,.int .i64 0],none,true,false⟩:=by kernel_rfl
@[simp] theorem T_454:T 454=some ⟨.func #[9,9,3] #[452,36] false,1,8,.nilFn,.nilFunc,none,false,false⟩:=by kernel_rfl
@[simp] theorem T_455:T 455=some ⟨.func #[392,400] #[3] false,1,8,.nilFn,.nilFunc,none,false,false⟩:=by kernel_rfl
@[simp] theorem T_456:T 456=some ⟨.func #[2,4] #[2] false,1,8,.nilFn,.nilFunc,none,false,false⟩:=by kernel_rfl
@[simp] theorem T_458:T 458=some ⟨.func #[262,262] #[262,262] false,1,8,.nilFn,.nilFunc,none,false,false⟩:=by kernel_rfl
@[simp] theorem T_459:T 459=some ⟨.map 3 3,1,8,.nilM,.map none,none,false,false⟩:=by kernel_rfl
@[simp] theorem T_460:T 460=some ⟨.func #[73,3,390,273] #[3] false,1,8,.nilFn,.nilFunc,none,false,false⟩:=by kernel_rfl
@[simp] theorem T_461:T 461=some ⟨.func #[73,3,3,3,390,273] #[3] false,1,8,.nilFn,.nilFunc,none,false,false⟩:=by kernel_rfl
@[simp] theorem T_462:T 462=some ⟨.func #[39,43] #[3] false,1,8,.nilFn,.nilFunc,none,false,false⟩:=by kernel_rfl
@[simp] theorem T_463:T 463=some ⟨.func #[3,3] #[297] false,1,8,.nilFn,.nilFunc,none,false,false⟩:=by kernel_rfl
@[simp] theorem T_464:T 464=some ⟨.func #[97,422] #[3] false,1,8,.nilFn,.nilFunc,none,false,false⟩:=by kernel_rfl
@[simp] theorem T_465:T 465=some ⟨.func #[92,424] #[3] false,1,8,.nilFn,.nilFunc,none,false,false⟩:=by kernel_rfl
@[simp] theorem T_466:T 466=some ⟨.func #[41,41,79] #[3] false,1,8,.nilFn,.nilFunc,none,false,false⟩:=by kernel_rfl
@[simp] theorem T_467:T 467=some ⟨.func #[27,97] #[4] false,1,8,.nilFn,.nilFunc,none,false,false⟩:=by kernel_rfl
@[simp] theorem T_468:T 468=some ⟨.func #[27] #[27] false,1,8,.nilFn,.nilFunc,none,false,false⟩:=by kernel_rfl
@[simp] theorem T_469:T 469=some ⟨.func #[59,3,3,3] #[] false,1,8,.nilFn,.nilFunc,none,false,false⟩:=by kernel_rfl
@[simp] theorem T_470:T 470=some ⟨.func #[79,3,390] #[3] false,1,8,.nilFn,.nilFunc,none,false,false⟩:=by kernel_rfl
@[simp] theorem T_471:T 471=some ⟨.func #[79,3,3,3,390] #[3] false,1,8,.nilFn,.nilFunc,none,false,false⟩:=by kernel_rfl
@[simp] theorem T_472:T 472=some ⟨.func #[67,3,3,390,245] #[3,3] false,1,8,.nilFn,.nilFunc,none,false,false⟩:=by kernel_rfl
@[simp] theorem T_474:T 474=some ⟨.func #[9,9] #[3,36] false,1,8,.nilFn,.nilFunc,none,false,false⟩:=by kernel_rfl
@[simp] theorem T_475:T 475=some ⟨.func #[26] #[4] true,1,8,.nilFn,.nilFunc,none,false,false⟩:=by kernel_rfl
@[simp] theorem T_477:T 477=some ⟨.func #[9,3] #[26,36] false,1,8,.nilFn,.nilFunc,none,false,false⟩:=by kernel_rfl
@[simp] theorem T_478:T 478=some ⟨.func #[2,2] #[452,36] false,1,8,.nilFn,.nilFunc,none,false,false⟩:=by kernel_rfl
@[simp] theorem T_479:T 479=some ⟨.func #[26,26] #[3] false,1,8,.nilFn,.nilFunc,none,false,false⟩:=by kernel_rfl
@[simp] theorem T_481:T 481=some ⟨.func #[85,85] #[85,85] false,1,8,.nilFn,.nilFunc,none,false,false⟩:=by kernel_rfl
@[simp] theorem T_483:T 483=some ⟨.func #[334,334] #[334,334] false,1,8,.nilFn,.nilFunc,none,false,false⟩:=by kernel_rfl
@[simp] theorem T_484:T 484=some ⟨.func #[73,3,3,390,273] #[3,3] false,1,8,.nilFn,.nilFunc,none,false,false⟩:=by kernel_rfl
@[simp] theorem T_485:T 485=some ⟨.array 32 5,32,32,.agg [.int .u8 0,.int .u8 0,.int .u8 0,.int .u8 0,.int .u8 0,.int .u8 0,.int .u8 0,.int .u8 0,.int .u8 0,.int .u8 0,.int .u8 0,.int .u8 0,.int .u8 0,.int .u8 0,.int .u8 0,.int .u8 0,.int .u8 0,.int .u8 0,.int .u8 0,.int .u8 0,.int .u8 0,.int .u8 0,.int .u8 0,.int .u8 0,.int .u8 0,.int .u8 0,.int .u8 0,.int .u8 0,.int .u8 0,.int .u8 0,.int .u8 0,.int .u8 0],.agg #[.int .u8 0,.int .u8 0,.int .u8 0,.int .u8 0,.int .u8 0,.int .u8 0,.int .u8 0,.int .u8 0,.int .u8 0,.int .u8 0,.int .u8 0,.int .u8 0,.int .u8 0,.int .u8 0,.int .u8 0,.int .u8 0,.int .u8 0,.int .u8 0,.int .u8 0,.int .u8 0,.int .u8 0,.int .u8 0,.int .u8 0,.int .u8 0,.int .u8 0,.int .u8 0,.int .u8 0,.int .u8 0,.int .u8 0,.int .u8 0,.int .u8 0,.int .u8 0],none,true,false⟩:=by kernel_rfl
@[simp] theorem T_486:T 486=some ⟨.func #[27,297] #[43] false,1,8,.nilFn,.nilFunc,none,false,false⟩:=by kernel_rfl
@[simp] theorem T_487:T 487=some ⟨.func #[59,3,3] #[] false,1,8,.nilFn,.nilFunc,none,false,false⟩:=by kernel_rfl
@[simp] theorem T_488:T 488=some ⟨.func #[59,3,3] #[3,326] false,1,8,.nilFn,.nilFunc,none,false,false⟩:=by kernel_rfl
@[simp] theorem T_489:T 489=some ⟨.func #[59,3,3] #[4] false,1,8,.nilFn,.nilFunc,none,false,false⟩:=by kernel_rfl
@[simp] theorem T_490:T 490=some ⟨.func #[59,3,3,3] #[3] false,1,8,.nilFn,.nilFunc,none,false,false⟩:=by kernel_rfl
@[simp] theorem T_491:T 491=some ⟨.func #[59,3,3,3] #[3,4] false,1,8,.nilFn,.nilFunc,none,false,false⟩:=by kernel_rfl
@[simp] theorem T_492:T 492=some ⟨.func #[79,3,3,390] #[3,3] false,1,8,.nilFn,.nilFunc,none,false,false⟩:=by kernel_rfl
@[simp] theorem T_493:T 493=some ⟨.func #[9,9] #[181] false,1,8,.nilFn,.nilFunc,none,false,false⟩:=by kernel_rfl
@[simp] theorem T_494:T 494=some ⟨.func #[26,162] #[4] false,1,8,.nilFn,.nilFunc,none,false,false⟩:=by kernel_rfl
@[simp] theorem T_495:T 495=some ⟨.func #[9,3] #[9] false,1,8,.nilFn,.nilFunc,none,false,false⟩:=by kernel_rfl
@[simp] theorem T_496:T 496=some ⟨.func #[26] #[] false,1,8,.nilFn,.nilFunc,none,false,false⟩:=by kernel_rfl
@[simp] theorem T_497:T 497=some ⟨.func #[2] #[334] false,1,8,.nilFn,.nilFunc,none,false,false⟩:=by kernel_rfl
@[simp] theorem T_498:T 498=some ⟨.func #[334,334] #[334] false,1,8,.nilFn,.nilFunc,none,false,false⟩:=by kernel_rfl
@[simp] theorem T_499:T 499=some ⟨.func #[4,334,334] #[452,36] false,1,8,.nilFn,.nilFunc,none,false,false⟩:=by kernel_rfl
@[simp] theorem T_500:T 500=some ⟨.func #[59,3,390] #[3] false,1,8,.nilFn,.nilFunc,none,false,false⟩:=by kernel_rfl
@[simp] theorem T_501:T 501=some ⟨.func #[59,3,3,3,390] #[3] false,1,8,.nilFn,.nilFunc,none,false,false⟩:=by kernel_rfl
@[simp] theorem T_502:T 502=some ⟨.func #[26,162] #[3] false,1,8,.nilFn,.nilFunc,none,false,false⟩:=by kernel_rfl
@[simp] theorem T_503:T 503=some ⟨.func #[9,9] #[4] false,1,8,.nilFn,.nilFunc,none,false,false⟩:=by kernel_rfl
@[simp] theorem T_504:T 504=some ⟨.pointer 506,1,8,.nilP,.pointer none,none,false,false⟩:=by kernel_rfl
@[simp] theorem T_505:T 505=some ⟨.struct #[⟨ "addr",504,0,false, "", "strings",0⟩,⟨ "buf",55,1,false, "", "strings",8⟩],2,32,.agg [.nilP,.nilS],.agg #[.pointer none,.slice none 0 0],none,true,false⟩:=by kernel_rfl
@[simp] theorem T_506:T 506=some ⟨.struct #[⟨ "addr",504,0,false, "", "strings",0⟩,⟨ "buf",55,1,false, "", "strings",8⟩],2,32,.agg [.nilP,.nilS],.agg #[.pointer none,.slice none 0 0],none,true,false⟩:=by kernel_rfl
@[simp] theorem T_507:T 507=some ⟨.func #[3] #[] false,1,8,.nilFn,.nilFunc,none,false,false⟩:=by kernel_rfl
@[simp] theorem T_511:T 511=some ⟨.func #[9] #[3,509] false,1,8,.nilFn,.nilFunc,none,false,false⟩:=by kernel_rfl
@[simp] theorem T_512:T 512=some ⟨.func #[] #[9] false,1,8,.nilFn,.nilFunc,none,false,false⟩:=by kernel_rfl
@[simp] theorem T_513:T 513=some ⟨.func #[26,3,3,3] #[] false,1,8,.nilFn,.nilFunc,none,false,false⟩:=by kernel_rfl
@[simp] theorem T_514:T 514=some ⟨.func #[59,3,3,390] #[3,3] false,1,8,.nilFn,.nilFunc,none,false,false⟩:=by kernel_rfl
@[simp] theorem T_515:T 515=some ⟨.pointer 5,1,8,.nilP,.pointer none,none,false,false⟩:=by kernel_rfl
@[simp] theorem T_516:T 516=some ⟨.func #[26,3,3] #[] false,1,8,.nilFn,.nilFunc,none,false,false⟩:=by kernel_rfl
@[simp] theorem T_517:T 517=some ⟨.func #[26,3,3] #[3,326] false,1,8,.nilFn,.nilFunc,none,false,false⟩:=by kernel_rfl
@[simp] theorem T_518:T 518=some ⟨.func #[26,3,3] #[4] false,1,8,.nilFn,.nilFunc,none,false,false⟩:=by kernel_rfl
@[simp] theorem T_519:T 519=some ⟨.func #[26,3,3,3] #[3] false,1,8,.nilFn,.nilFunc,none,false,false⟩:=by kernel_rfl
@[simp] theorem T_520:T 520=some ⟨.func #[26,3,3,3] #[3,4] false,1,8,.nilFn,.nilFunc,none,false,false⟩:=by kernel_rfl
@[simp] theorem T_522:T 522=some ⟨.func #[521] #[521] false,1,8,.nilFn,.nilFunc,none,false,false⟩:=by kernel_rfl
@[simp] theorem T_523:T 523=some ⟨.func #[3] #[55] false,1,8,.nilFn,.nilFunc,none,false,false⟩:=by kernel_rfl
@[simp] theorem T_524:T 524=some ⟨.func #[26,3,390] #[3] false,1,8,.nilFn,.nilFunc,none,false,false⟩:=by kernel_rfl
@[simp] theorem T_525:T 525=some ⟨.func #[26,3,3,3,390] #[3] false,1,8,.nilFn,.nilFunc,none,false,false⟩:=by kernel_rfl
@[simp] theorem T_526:T 526=some ⟨.func #[26,3,3,390] #[3,3] false,1,8,.nilFn,.nilFunc,none,false,false⟩:=by kernel_rfl
@[simp] theorem T_527:T 527=some ⟨.struct #[⟨ "_interface",17,0,false, "", "runtime",0⟩,⟨ "concrete",17,1,false, "", "runtime",8⟩,⟨ "asserted",17,2,false, "", "runtime",16⟩,⟨ "missingMethod",9,3,false, "", "runtime",24⟩],4,40,.agg [.nilP,.nilP,.nilP,.str kI],.agg #[.pointer none,.pointer none,.pointer none,.string kI],none,false,false⟩:=by kernel_rfl
@[simp] theorem T_528:T 528=some ⟨.struct #[⟨ "_interface",17,0,false, "", "runtime",0⟩,⟨ "concrete",17,1,false, "", "runtime",8⟩,⟨ "asserted",17,2,false, "", "runtime",16⟩,⟨ "missingMethod",9,3,false, "", "runtime",24⟩],4,40,.agg [.nilP,.nilP,.nilP,.str kI],.agg #[.pointer none,.pointer none,.pointer none,.string kI],none,false,false⟩:=by kernel_rfl
@[simp] theorem T_529:T 529=some ⟨.array 0 16,0,0,.agg [],.agg #[],none,true,false⟩:=by kernel_rfl
@[simp] theorem T_530:T 530=some ⟨.struct #[⟨ "_",529,0,false, "", "runtime",0⟩],0,0,.agg [],.agg #[],none,false,false⟩:=by kernel_rfl
@[simp] theorem T_531:T 531=some ⟨.struct #[⟨ "_",529,0,false, "", "runtime",0⟩],0,0,.agg [],.agg #[],none,false,false⟩:=by kernel_rfl
@[simp] theorem T_532:T 532=some ⟨.int .u8,1,1,.int .u8 0,.int .u8 0,some (.int .u8),false,false⟩:=by kernel_rfl
@[simp] theorem T_533:T 533=some ⟨.int .u8,1,1,.int .u8 0,.int .u8 0,some (.int .u8),false,false⟩:=by kernel_rfl
@[simp] theorem T_534:T 534=some ⟨.func #[521,521] #[4] false,1,8,.nilFn,.nilFunc,none,false,false⟩:=by kernel_rfl
@[simp] theorem T_535:T 535=some ⟨.int .i32,1,4,.int .i32 0,.int .i32 0,some (.int .i32),false,false⟩:=by kernel_rfl
@[simp] theorem T_536:T 536=some ⟨.int .i32,1,4,.int .i32 0,.int .i32 0,some (.int .i32),false,false⟩:=by kernel_rfl
@[simp] theorem T_537:T 537=some ⟨.struct #[⟨ "Size_",12,0,false, "", "",0⟩,⟨ "PtrBytes",12,1,false, "", "",8⟩,⟨ "Hash",85,2,false, "", "",16⟩,⟨ "TFlag",532,3,false, "", "",20⟩,⟨ "Align_",5,4,false, "", "",21⟩,⟨ "FieldAlign_",5,5,false, "", "",22⟩,⟨ "Kind_",533,6,false, "", "",23⟩,⟨ "Equal",534,7,false, "", "",24⟩,⟨ "GCData",515,8,false, "", "",32⟩,⟨ "Str",535,9,false, "", "",40⟩,⟨ "PtrToThis",536,10,false, "", "",44⟩],11,48,.agg [.int .u64 0,.int .u64 0,.int .u32 0,.int .u8 0,.int .u8 0,.int .u8 0,.int .u8 0,.nilFn,.nilP,.int .i32 0,.int .i32 0],.agg #[.int .u64 0,.int .u64 0,.int .u32 0,.int .u8 0,.int .u8 0,.int .u8 0,.int .u8 0,.nilFunc,.pointer none,.int .i32 0,.int .i32 0],none,false,false⟩:=by kernel_rfl
@[simp] theorem T_538:T 538=some ⟨.struct #[⟨ "Size_",12,0,false, "", "",0⟩,⟨ "PtrBytes",12,1,false, "", "",8⟩,⟨ "Hash",85,2,false, "", "",16⟩,⟨ "TFlag",532,3,false, "", "",20⟩,⟨ "Align_",5,4,false, "", "",21⟩,⟨ "FieldAlign_",5,5,false, "", "",22⟩,⟨ "Kind_",533,6,false, "", "",23⟩,⟨ "Equal",534,7,false, "", "",24⟩,⟨ "GCData",515,8,false, "", "",32⟩,⟨ "Str",535,9,false, "", "",40⟩,⟨ "PtrToThis",536,10,false, "", "",44⟩],11,48,.agg [.int .u64 0,.int .u64 0,.int .u32 0,.int .u8 0,.int .u8 0,.int .u8 0,.int .u8 0,.nilFn,.nilP,.int .i32 0,.int .i32 0],.agg #[.int .u64 0,.int .u64 0,.int .u32 0,.int .u8 0,.int .u8 0,.int .u8 0,.int .u8 0,.nilFunc,.pointer none,.int .i32 0,.int .i32 0],none,false,false⟩:=by kernel_rfl
theorem tok:TOk Tryz.prog T:=mk_ok
end
end Go.Proofs.YtpedcgdgjoblkaaGreatDoor
