/- Closed facts on the types and the functions of this program. -/
import Derived.Test.YthekfonboblioabGreatDoorChecked
import Derived.Test.YthekfonboblioabGreatDoorTm
import Derived.Test.YthekfonboblioabGreatDoorSyB
namespace Go.Proofs.YthekfonboblioabGreatDoor
open Go Sx
set_option maxRecDepth 100000
theorem A1:Tryz.prog.follows .mixedOrders=true:=I0
instance:FoM Tryz.prog:=⟨A1⟩
instance:KT Tryz.prog:=⟨([(2,.i64),(3,.i64),(5,.u8),(6,.u8),(12,.u64),(21,.i32),(29,.u64),(30,.u64),(34,.i64),(46,.u64),(126,.u32),(200,.u8),(201,.u8),(204,.i32),(205,.i32)],[(26,0,0),(26,1,1),(26,2,2),(26,3,3),(26,4,4),(33,0,0),(33,1,1),(33,2,2),(33,3,3),(33,4,4),(62,0,0),(62,1,1),(80,0,0),(80,1,1),(80,2,3),(86,0,0),(86,1,1),(86,2,2),(110,0,0),(110,1,1),(110,2,2),(110,3,4),(118,0,0),(118,1,2)]),I0,I0⟩
instance:FnC Tryz.prog 5:=⟨⟨_,Tryz.func5,I0,I0⟩⟩
theorem Yu:ZeroT Tryz.prog 26 [.int .i64 0,.int .i64 0,hnil.v,hnil.v,hnil.v]:=mkZ (zv:=.agg #[.int .i64 0,.int .i64 0,hnil.v,hnil.v,hnil.v]) I0 rfl
theorem V0:SlT Tryz.prog 23 3 (rI .i64) 0:=S7 (zv:=.int .i64 0) (by_:=8) I0 I0 A0 (fun _ _=>rfl)
theorem cv:StructOf Tryz.prog 26 [.int .i64 0,.int .i64 0,hnil.v,hnil.v,hnil.v] [(0,1),(1,1),(2,1),(3,1),(4,1)]:=Yb I0 I0
theorem J7:StT Tryz.prog 26 5:=Xb I0
theorem tF:SlT Tryz.prog 22 29 (rI .u64) 0:=S7 (zv:=.int .u64 0) (by_:=8) I0 I0 A0 (fun _ _=>rfl)
theorem O_29:OneT Tryz.prog 29:=J9 (by kernel_rfl:Tryz.prog.underlying 29=some (.int .u64)) rfl I0
instance:FnC Tryz.prog 15:=⟨⟨_,Tryz.func15,I0,I0⟩⟩
theorem L1:OneT Tryz.prog 23:=J9 (by kernel_rfl:Tryz.prog.underlying 23=some (.slice 3)) rfl I0
instance:FnC Tryz.prog 46:=⟨⟨_,Tryz.func46,I0,I0⟩⟩
theorem mF:ZeroT Tryz.prog 80 [.bool false,.bool false,hnil.v,.int .i64 0]:=mkZ (zv:=.agg #[.bool false,.bool false,hnil.v,.int .i64 0]) I0 rfl
theorem J4:ZeroT Tryz.prog 62 [.bool false,hnil.v]:=mkZ (zv:=.agg #[.bool false,hnil.v]) I0 rfl
theorem X1:SlT Tryz.prog 60 126 (rI .u32) 0:=S7 (zv:=.int .u32 0) (by_:=4) I0 I0 A0 (fun _ _=>rfl)
theorem Z3:OneT Tryz.prog 126:=J9 (by kernel_rfl:Tryz.prog.underlying 126=some (.int .u32)) rfl I0
instance:FnC Tryz.prog 145:=⟨⟨_,Tryz.func145,I0,I0⟩⟩
theorem av:StructOf Tryz.prog 62 [.bool false,hnil.v] [(0,1),(1,1)]:=Yb I0 I0
theorem P0:StT Tryz.prog 62 2:=Xb I0
instance:FnC Tryz.prog 88:=⟨⟨_,Tryz.func88,I0,I0⟩⟩
instance:FnC Tryz.prog 45:=⟨⟨_,Tryz.func45,I0,I0⟩⟩
theorem O_4:OneT Tryz.prog 4:=J9 (by kernel_rfl:Tryz.prog.underlying 4=some (.bool)) rfl I0
theorem Al:OneT Tryz.prog 60:=J9 (by kernel_rfl:Tryz.prog.underlying 60=some (.slice 126)) rfl I0
instance:FnC Tryz.prog 82:=⟨⟨_,Tryz.func82,I0,I0⟩⟩
theorem qF:StructOf Tryz.prog 80 [.bool false,.bool false,hnil.v,.int .i64 0] [(0,1),(1,2),(3,1)]:=Yb I0 I0
theorem M9:StT Tryz.prog 80 4:=Xb I0
instance:FnC Tryz.prog 114:=⟨⟨_,Tryz.func114,I0,I0⟩⟩
instance:FnC Tryz.prog 183:=⟨⟨_,Tryz.func183,I0,I0⟩⟩
instance:FnC Tryz.prog 166:=⟨⟨_,Tryz.func166,I0,I0⟩⟩
instance:FnC Tryz.prog 144:=⟨⟨_,Tryz.func144,I0,I0⟩⟩
instance:FnC Tryz.prog 119:=⟨⟨_,Tryz.func119,I0,I0⟩⟩
instance:FnC Tryz.prog 120:=⟨⟨_,Tryz.func120,I0,I0⟩⟩
instance:FnC Tryz.prog 176:=⟨⟨_,Tryz.func176,I0,I0⟩⟩
instance:FnC Tryz.prog 177:=⟨⟨_,Tryz.func177,I0,I0⟩⟩
instance:FnC Tryz.prog 178:=⟨⟨_,Tryz.func178,I0,I0⟩⟩
instance:FnC Tryz.prog 142:=⟨⟨_,Tryz.func142,I0,I0⟩⟩
instance:FnC Tryz.prog 140:=⟨⟨_,Tryz.func140,I0,I0⟩⟩
instance:FnC Tryz.prog 121:=⟨⟨_,Tryz.func121,I0,I0⟩⟩
instance:FnC Tryz.prog 64:=⟨⟨_,Tryz.func64,I0,I0⟩⟩
instance:FnC Tryz.prog 167:=⟨⟨_,Tryz.func167,I0,I0⟩⟩
instance:FnC Tryz.prog 190:=⟨⟨_,Tryz.func190,I0,I0⟩⟩
instance:FnC Tryz.prog 168:=⟨⟨_,Tryz.func168,I0,I0⟩⟩
instance:FnC Tryz.prog 115:=⟨⟨_,Tryz.func115,I0,I0⟩⟩
instance:FnC Tryz.prog 87:=⟨⟨_,Tryz.func87,I0,I0⟩⟩
theorem O_3:OneT Tryz.prog 3:=J9 (by kernel_rfl:Tryz.prog.underlying 3=some (.int .i64)) rfl I0
instance:FnC Tryz.prog 117:=⟨⟨_,Tryz.func117,I0,I0⟩⟩
instance:FnC Tryz.prog 42:=⟨⟨_,Tryz.func42,I0,I0⟩⟩
instance:FnC Tryz.prog 181:=⟨⟨_,Tryz.func181,I0,I0⟩⟩
instance:FnC Tryz.prog 179:=⟨⟨_,Tryz.func179,I0,I0⟩⟩
instance:FnC Tryz.prog 195:=⟨⟨_,Tryz.func195,I0,I0⟩⟩
instance:FnC Tryz.prog 196:=⟨⟨_,Tryz.func196,I0,I0⟩⟩
instance:FnC Tryz.prog 180:=⟨⟨_,Tryz.func180,I0,I0⟩⟩
instance:FnC Tryz.prog 128:=⟨⟨_,Tryz.func128,I0,I0⟩⟩
instance:FnC Tryz.prog 143:=⟨⟨_,Tryz.func143,I0,I0⟩⟩
instance:FnC Tryz.prog 86:=⟨⟨_,Tryz.func86,I0,I0⟩⟩
instance:FnC Tryz.prog 44:=⟨⟨_,Tryz.func44,I0,I0⟩⟩
instance:FnC Tryz.prog 47:=⟨⟨_,Tryz.func47,I0,I0⟩⟩
theorem O9:OneT Tryz.prog 24:=J9 (by kernel_rfl:Tryz.prog.underlying 24=some (.slice 30)) rfl I0
instance:FnC Tryz.prog 16:=⟨⟨_,Tryz.func16,I0,I0⟩⟩
theorem X8:SlT Tryz.prog 24 30 (rI .u64) 0:=S7 (zv:=.int .u64 0) (by_:=8) I0 I0 A0 (fun _ _=>rfl)
instance:FnC Tryz.prog 4:=⟨⟨_,Tryz.func4,I0,I0⟩⟩
theorem Dc:OneT Tryz.prog 30:=J9 (by kernel_rfl:Tryz.prog.underlying 30=some (.int .u64)) rfl I0
theorem th:ZeroT Tryz.prog 33 [.int .i64 0,.int .i64 0,hnil.v,hnil.v,hnil.v]:=mkZ (zv:=.agg #[.int .i64 0,.int .i64 0,hnil.v,hnil.v,hnil.v]) I0 rfl
instance:FnC Tryz.prog 89:=⟨⟨_,Tryz.func89,I0,I0⟩⟩
instance:FnC Tryz.prog 192:=⟨⟨_,Tryz.func192,I0,I0⟩⟩
instance:FnC Tryz.prog 182:=⟨⟨_,Tryz.func182,I0,I0⟩⟩
instance:FnC Tryz.prog 146:=⟨⟨_,Tryz.func146,I0,I0⟩⟩
instance:FnC Tryz.prog 90:=⟨⟨_,Tryz.func90,I0,I0⟩⟩
instance:FnC Tryz.prog 94:=⟨⟨_,Tryz.func94,I0,I0⟩⟩
instance:FnC Tryz.prog 93:=⟨⟨_,Tryz.func93,I0,I0⟩⟩
theorem ZF:FnT Tryz.prog 92 Tryz.f92:=⟨Tryz.func92,I0,I0⟩
instance:FnC Tryz.prog 147:=⟨⟨_,Tryz.func147,I0,I0⟩⟩
instance:FnC Tryz.prog 91:=⟨⟨_,Tryz.func91,I0,I0⟩⟩
instance:FnC Tryz.prog 48:=⟨⟨_,Tryz.func48,I0,I0⟩⟩
instance:FnC Tryz.prog 99:=⟨⟨_,Tryz.func99,I0,I0⟩⟩
instance:FnC Tryz.prog 100:=⟨⟨_,Tryz.func100,I0,I0⟩⟩
instance:FnC Tryz.prog 55:=⟨⟨_,Tryz.func55,I0,I0⟩⟩
instance:FnC Tryz.prog 95:=⟨⟨_,Tryz.func95,I0,I0⟩⟩
instance:FnC Tryz.prog 148:=⟨⟨_,Tryz.func148,I0,I0⟩⟩
instance:FnC Tryz.prog 96:=⟨⟨_,Tryz.func96,I0,I0⟩⟩
instance:FnC Tryz.prog 149:=⟨⟨_,Tryz.func149,I0,I0⟩⟩
instance:FnC Tryz.prog 136:=⟨⟨_,Tryz.func136,I0,I0⟩⟩
instance:FnC Tryz.prog 75:=⟨⟨_,Tryz.func75,I0,I0⟩⟩
instance:FnC Tryz.prog 150:=⟨⟨_,Tryz.func150,I0,I0⟩⟩
instance:FnC Tryz.prog 184:=⟨⟨_,Tryz.func184,I0,I0⟩⟩
instance:FnC Tryz.prog 151:=⟨⟨_,Tryz.func151,I0,I0⟩⟩
instance:FnC Tryz.prog 101:=⟨⟨_,Tryz.func101,I0,I0⟩⟩
theorem kG:FnT Tryz.prog 154 Tryz.f154:=⟨Tryz.func154,I0,I0⟩
instance:FnC Tryz.prog 185:=⟨⟨_,Tryz.func185,I0,I0⟩⟩
instance:FnC Tryz.prog 153:=⟨⟨_,Tryz.func153,I0,I0⟩⟩
instance:FnC Tryz.prog 102:=⟨⟨_,Tryz.func102,I0,I0⟩⟩
instance:FnC Tryz.prog 103:=⟨⟨_,Tryz.func103,I0,I0⟩⟩
instance:FnC Tryz.prog 52:=⟨⟨_,Tryz.func52,I0,I0⟩⟩
instance:FnC Tryz.prog 152:=⟨⟨_,Tryz.func152,I0,I0⟩⟩
instance:FnC Tryz.prog 98:=⟨⟨_,Tryz.func98,I0,I0⟩⟩
instance:FnC Tryz.prog 97:=⟨⟨_,Tryz.func97,I0,I0⟩⟩
instance:FnC Tryz.prog 49:=⟨⟨_,Tryz.func49,I0,I0⟩⟩
instance:FnC Tryz.prog 50:=⟨⟨_,Tryz.func50,I0,I0⟩⟩
theorem T4:SlT Tryz.prog 31 37 rH hnil:=S7 (zv:=hnil.v) (by_:=24) I0 I0 A0 (fun _ _=>rfl)
theorem V2:SlT Tryz.prog 37 62 (rP rB (rS (rI .u32))) (false,[]):=S7 (zv:=.agg #[.bool false,hnil.v]) (by_:=32) I0 I0 A0 (fun w X=>⟨[_],_,rfl,rfl,⟨_,rfl,Imm.nil w X (rI .u32)⟩⟩)
theorem D4:OneT Tryz.prog 37:=J9 (by kernel_rfl:Tryz.prog.underlying 37=some (.slice 62)) rfl I0
theorem kl:StructOf Tryz.prog 86 [.int .i64 0,.int .i64 0,.int .u64 0] [(0,1),(1,1),(2,1)]:=Yb I0 I0
theorem Ld:SlT Tryz.prog 83 86 rTi64i64u64 (0,0,0):=S7 (zv:=.agg #[.int .i64 0,.int .i64 0,.int .u64 0]) (by_:=24) I0 I0 A0 (fun _ _=>rfl)
instance:FnC Tryz.prog 51:=⟨⟨_,Tryz.func51,I0,I0⟩⟩
theorem Zu:StT Tryz.prog 86 3:=Xb I0
theorem lF:ZeroT Tryz.prog 86 [.int .i64 0,.int .i64 0,.int .u64 0]:=mkZ (zv:=.agg #[.int .i64 0,.int .i64 0,.int .u64 0]) I0 rfl
theorem nG:FldT Tryz.prog 86 2 2:=Dd I0
theorem pG:FldT Tryz.prog 86 0 0:=Dd I0
theorem oG:FldT Tryz.prog 86 1 1:=Dd I0
instance:FnC Tryz.prog 17:=⟨⟨_,Tryz.func17,I0,I0⟩⟩
theorem vh:SlT Tryz.prog 89 4 rB false:=S7 (zv:=.bool false) (by_:=1) I0 I0 A0 (fun _ _=>rfl)
theorem A5:SlT Tryz.prog 31 37 (rS (rP rB (rS (rI .u32)))) []:=S7 (zv:=hnil.v) (by_:=24) I0 I0 A0 (fun w X=>⟨_,rfl,Imm.nil w X (rP rB (rS (rI .u32)))⟩)
instance:FnC Tryz.prog 104:=⟨⟨_,Tryz.func104,I0,I0⟩⟩
instance:FnC Tryz.prog 79:=⟨⟨_,Tryz.func79,I0,I0⟩⟩
theorem ZT_3:ZeroT Tryz.prog 3 [.int .i64 0]:=mkZ (zv:=.int .i64 0) I0 rfl
theorem mG:FnT Tryz.prog 134 Tryz.f134:=⟨Tryz.func134,I0,I0⟩
instance:FnC Tryz.prog 173:=⟨⟨_,Tryz.func173,I0,I0⟩⟩
instance:FnC Tryz.prog 133:=⟨⟨_,Tryz.func133,I0,I0⟩⟩
instance:FnC Tryz.prog 76:=⟨⟨_,Tryz.func76,I0,I0⟩⟩
instance:FnC Tryz.prog 78:=⟨⟨_,Tryz.func78,I0,I0⟩⟩
theorem pF:ZeroT Tryz.prog 110 [hnil.v,hnil.v,.bool false,hnil.v,.int .i64 0]:=mkZ (zv:=.agg #[hnil.v,hnil.v,.bool false,hnil.v,.int .i64 0]) I0 rfl
theorem sF:StructOf Tryz.prog 110 [hnil.v,hnil.v,.bool false,hnil.v,.int .i64 0] [(0,1),(1,1),(2,2),(4,1)]:=Yb I0 I0
theorem jl:StT Tryz.prog 110 5:=Xb I0
theorem z6:OneT Tryz.prog 31:=J9 (by kernel_rfl:Tryz.prog.underlying 31=some (.slice 37)) rfl I0
instance:FnC Tryz.prog 132:=⟨⟨_,Tryz.func132,I0,I0⟩⟩
instance:FnC Tryz.prog 193:=⟨⟨_,Tryz.func193,I0,I0⟩⟩
instance:FnC Tryz.prog 172:=⟨⟨_,Tryz.func172,I0,I0⟩⟩
instance:FnC Tryz.prog 171:=⟨⟨_,Tryz.func171,I0,I0⟩⟩
instance:FnC Tryz.prog 130:=⟨⟨_,Tryz.func130,I0,I0⟩⟩
instance:FnC Tryz.prog 131:=⟨⟨_,Tryz.func131,I0,I0⟩⟩
instance:FnC Tryz.prog 73:=⟨⟨_,Tryz.func73,I0,I0⟩⟩
instance:FnC Tryz.prog 186:=⟨⟨_,Tryz.func186,I0,I0⟩⟩
instance:FnC Tryz.prog 187:=⟨⟨_,Tryz.func187,I0,I0⟩⟩
instance:FnC Tryz.prog 188:=⟨⟨_,Tryz.func188,I0,I0⟩⟩
instance:FnC Tryz.prog 155:=⟨⟨_,Tryz.func155,I0,I0⟩⟩
instance:FnC Tryz.prog 156:=⟨⟨_,Tryz.func156,I0,I0⟩⟩
instance:FnC Tryz.prog 74:=⟨⟨_,Tryz.func74,I0,I0⟩⟩
instance:FnC Tryz.prog 194:=⟨⟨_,Tryz.func194,I0,I0⟩⟩
instance:FnC Tryz.prog 108:=⟨⟨_,Tryz.func108,I0,I0⟩⟩
instance:FnC Tryz.prog 174:=⟨⟨_,Tryz.func174,I0,I0⟩⟩
instance:FnC Tryz.prog 135:=⟨⟨_,Tryz.func135,I0,I0⟩⟩
instance:FnC Tryz.prog 77:=⟨⟨_,Tryz.func77,I0,I0⟩⟩
theorem YF:FldV Tryz.prog 110 1 1:=fvOf I0
instance:FnC Tryz.prog 36:=⟨⟨_,Tryz.func36,I0,I0⟩⟩
instance:FnC Tryz.prog 53:=⟨⟨_,Tryz.func53,I0,I0⟩⟩
instance:FnC Tryz.prog 54:=⟨⟨_,Tryz.func54,I0,I0⟩⟩
instance:FnC Tryz.prog 105:=⟨⟨_,Tryz.func105,I0,I0⟩⟩
instance:FnC Tryz.prog 106:=⟨⟨_,Tryz.func106,I0,I0⟩⟩
instance:FnC Tryz.prog 107:=⟨⟨_,Tryz.func107,I0,I0⟩⟩
instance:FnC Tryz.prog 56:=⟨⟨_,Tryz.func56,I0,I0⟩⟩
theorem cG:FnT Tryz.prog 54 Tryz.f54:=⟨Tryz.func54,I0,I0⟩
instance:FnC Tryz.prog 18:=⟨⟨_,Tryz.func18,I0,I0⟩⟩
theorem uh:StructOf Tryz.prog 33 [.int .i64 0,.int .i64 0,hnil.v,hnil.v,hnil.v] [(0,1),(1,1),(2,1),(3,1),(4,1)]:=Yb I0 I0
theorem P6:StT Tryz.prog 33 5:=Xb I0
instance:FnC Tryz.prog 32:=⟨⟨_,Tryz.func32,I0,I0⟩⟩
instance:FnC Tryz.prog 19:=⟨⟨_,Tryz.func19,I0,I0⟩⟩
theorem G3:SlT Tryz.prog 52 23 rH hnil:=S7 (zv:=hnil.v) (by_:=24) I0 I0 A0 (fun _ _=>rfl)
instance:FnC Tryz.prog 157:=⟨⟨_,Tryz.func157,I0,I0⟩⟩
instance:FnC Tryz.prog 109:=⟨⟨_,Tryz.func109,I0,I0⟩⟩
instance:FnC Tryz.prog 57:=⟨⟨_,Tryz.func57,I0,I0⟩⟩
instance:FnC Tryz.prog 20:=⟨⟨_,Tryz.func20,I0,I0⟩⟩
theorem N9:SlT Tryz.prog 52 23 (rS (rI .i64)) []:=S7 (zv:=hnil.v) (by_:=24) I0 I0 A0 (fun w X=>⟨_,rfl,Imm.nil w X (rI .i64)⟩)
instance:FnC Tryz.prog 58:=⟨⟨_,Tryz.func58,I0,I0⟩⟩
instance:FnC Tryz.prog 158:=⟨⟨_,Tryz.func158,I0,I0⟩⟩
theorem gG:FnT Tryz.prog 160 Tryz.f160:=⟨Tryz.func160,I0,I0⟩
instance:FnC Tryz.prog 161:=⟨⟨_,Tryz.func161,I0,I0⟩⟩
instance:FnC Tryz.prog 159:=⟨⟨_,Tryz.func159,I0,I0⟩⟩
instance:FnC Tryz.prog 110:=⟨⟨_,Tryz.func110,I0,I0⟩⟩
instance:FnC Tryz.prog 163:=⟨⟨_,Tryz.func163,I0,I0⟩⟩
instance:FnC Tryz.prog 112:=⟨⟨_,Tryz.func112,I0,I0⟩⟩
theorem jG:FnT Tryz.prog 158 Tryz.f158:=⟨Tryz.func158,I0,I0⟩
theorem eG:FnT Tryz.prog 162 Tryz.f162:=⟨Tryz.func162,I0,I0⟩
theorem fG:FnT Tryz.prog 161 Tryz.f161:=⟨Tryz.func161,I0,I0⟩
instance:FnC Tryz.prog 189:=⟨⟨_,Tryz.func189,I0,I0⟩⟩
instance:FnC Tryz.prog 164:=⟨⟨_,Tryz.func164,I0,I0⟩⟩
theorem dG:FnT Tryz.prog 165 Tryz.f165:=⟨Tryz.func165,I0,I0⟩
instance:FnC Tryz.prog 111:=⟨⟨_,Tryz.func111,I0,I0⟩⟩
theorem bG:FnT Tryz.prog 59 Tryz.f59:=⟨Tryz.func59,I0,I0⟩
instance:FnC Tryz.prog 21:=⟨⟨_,Tryz.func21,I0,I0⟩⟩
instance:FnC Tryz.prog 22:=⟨⟨_,Tryz.func22,I0,I0⟩⟩
theorem dw:FnT Tryz.prog 6 Tryz.f6:=⟨Tryz.func6,I0,I0⟩
instance:FnC Tryz.prog 113:=⟨⟨_,Tryz.func113,I0,I0⟩⟩
instance:FnC Tryz.prog 60:=⟨⟨_,Tryz.func60,I0,I0⟩⟩
instance:FnC Tryz.prog 116:=⟨⟨_,Tryz.func116,I0,I0⟩⟩
instance:FnC Tryz.prog 61:=⟨⟨_,Tryz.func61,I0,I0⟩⟩
instance:FnC Tryz.prog 62:=⟨⟨_,Tryz.func62,I0,I0⟩⟩
theorem wh:SlT Tryz.prog 97 24 rH hnil:=S7 (zv:=hnil.v) (by_:=24) I0 I0 A0 (fun _ _=>rfl)
instance:FnC Tryz.prog 118:=⟨⟨_,Tryz.func118,I0,I0⟩⟩
instance:FnC Tryz.prog 63:=⟨⟨_,Tryz.func63,I0,I0⟩⟩
instance:FnC Tryz.prog 23:=⟨⟨_,Tryz.func23,I0,I0⟩⟩
instance:FnC Tryz.prog 66:=⟨⟨_,Tryz.func66,I0,I0⟩⟩
theorem ll:StructOf Tryz.prog 118 [.bool false,hnil.v,.bool false,hnil.v] [(0,2),(2,2)]:=Yb I0 I0
theorem Y3:SlT Tryz.prog 147 118 (rP rB (rP (rS (rI .u32)) (rP rB (rS (rI .u32))))) (false,[],false,[]):=S7 (zv:=.agg #[.bool false,hnil.v,.bool false,hnil.v]) (by_:=64) I0 I0 A0 (fun w X=>⟨[_],_,rfl,rfl,⟨[_],_,rfl,⟨_,rfl,Imm.nil w X (rI .u32)⟩,⟨[_],_,rfl,rfl,⟨_,rfl,Imm.nil w X (rI .u32)⟩⟩⟩⟩)
theorem L5:SlT Tryz.prog 121 147 rH hnil:=S7 (zv:=hnil.v) (by_:=24) I0 I0 A0 (fun _ _=>rfl)
instance:FnC Tryz.prog 84:=⟨⟨_,Tryz.func84,I0,I0⟩⟩
instance:FnC Tryz.prog 85:=⟨⟨_,Tryz.func85,I0,I0⟩⟩
theorem Qe:ZeroT Tryz.prog 118 [.bool false,hnil.v,.bool false,hnil.v]:=mkZ (zv:=.agg #[.bool false,hnil.v,.bool false,hnil.v]) I0 rfl
theorem K5:StT Tryz.prog 118 4:=Xb I0
theorem D6:OneT Tryz.prog 147:=J9 (by kernel_rfl:Tryz.prog.underlying 147=some (.slice 118)) rfl I0
theorem jf:FldT Tryz.prog 118 0 0:=Dd I0
instance:FnC Tryz.prog 141:=⟨⟨_,Tryz.func141,I0,I0⟩⟩
instance:FnC Tryz.prog 169:=⟨⟨_,Tryz.func169,I0,I0⟩⟩
instance:FnC Tryz.prog 191:=⟨⟨_,Tryz.func191,I0,I0⟩⟩
instance:FnC Tryz.prog 170:=⟨⟨_,Tryz.func170,I0,I0⟩⟩
instance:FnC Tryz.prog 127:=⟨⟨_,Tryz.func127,I0,I0⟩⟩
instance:FnC Tryz.prog 126:=⟨⟨_,Tryz.func126,I0,I0⟩⟩
instance:FnC Tryz.prog 125:=⟨⟨_,Tryz.func125,I0,I0⟩⟩
theorem L7:FldT Tryz.prog 118 1 2:=Dd I0
instance:FnC Tryz.prog 124:=⟨⟨_,Tryz.func124,I0,I0⟩⟩
instance:FnC Tryz.prog 123:=⟨⟨_,Tryz.func123,I0,I0⟩⟩
instance:FnC Tryz.prog 122:=⟨⟨_,Tryz.func122,I0,I0⟩⟩
theorem bw:FnT Tryz.prog 83 Tryz.f83:=⟨Tryz.func83,I0,I0⟩
instance:FnC Tryz.prog 43:=⟨⟨_,Tryz.func43,I0,I0⟩⟩
instance:FnC Tryz.prog 65:=⟨⟨_,Tryz.func65,I0,I0⟩⟩
instance:FnC Tryz.prog 67:=⟨⟨_,Tryz.func67,I0,I0⟩⟩
instance:FnC Tryz.prog 24:=⟨⟨_,Tryz.func24,I0,I0⟩⟩
instance:FnC Tryz.prog 37:=⟨⟨_,Tryz.func37,I0,I0⟩⟩
instance:FnC Tryz.prog 25:=⟨⟨_,Tryz.func25,I0,I0⟩⟩
instance:FnC Tryz.prog 68:=⟨⟨_,Tryz.func68,I0,I0⟩⟩
instance:FnC Tryz.prog 26:=⟨⟨_,Tryz.func26,I0,I0⟩⟩
instance:FnC Tryz.prog 70:=⟨⟨_,Tryz.func70,I0,I0⟩⟩
instance:FnC Tryz.prog 40:=⟨⟨_,Tryz.func40,I0,I0⟩⟩
instance:FnC Tryz.prog 137:=⟨⟨_,Tryz.func137,I0,I0⟩⟩
instance:FnC Tryz.prog 138:=⟨⟨_,Tryz.func138,I0,I0⟩⟩
instance:FnC Tryz.prog 175:=⟨⟨_,Tryz.func175,I0,I0⟩⟩
instance:FnC Tryz.prog 139:=⟨⟨_,Tryz.func139,I0,I0⟩⟩
instance:FnC Tryz.prog 80:=⟨⟨_,Tryz.func80,I0,I0⟩⟩
instance:FnC Tryz.prog 69:=⟨⟨_,Tryz.func69,I0,I0⟩⟩
instance:FnC Tryz.prog 27:=⟨⟨_,Tryz.func27,I0,I0⟩⟩
instance:FnC Tryz.prog 28:=⟨⟨_,Tryz.func28,I0,I0⟩⟩
instance:FnC Tryz.prog 7:=⟨⟨_,Tryz.func7,I0,I0⟩⟩
instance:FnC Tryz.prog 8:=⟨⟨_,Tryz.func8,I0,I0⟩⟩
instance:FnC Tryz.prog 9:=⟨⟨_,Tryz.func9,I0,I0⟩⟩
instance:FnC Tryz.prog 29:=⟨⟨_,Tryz.func29,I0,I0⟩⟩
instance:FnC Tryz.prog 71:=⟨⟨_,Tryz.func71,I0,I0⟩⟩
instance:FnC Tryz.prog 31:=⟨⟨_,Tryz.func31,I0,I0⟩⟩
instance:FnC Tryz.prog 11:=⟨⟨_,Tryz.func11,I0,I0⟩⟩
instance:FnC Tryz.prog 30:=⟨⟨_,Tryz.func30,I0,I0⟩⟩
instance:FnC Tryz.prog 33:=⟨⟨_,Tryz.func33,I0,I0⟩⟩
instance:FnC Tryz.prog 129:=⟨⟨_,Tryz.func129,I0,I0⟩⟩
theorem aG:FnT Tryz.prog 72 Tryz.f72:=⟨Tryz.func72,I0,I0⟩
instance:FnC Tryz.prog 34:=⟨⟨_,Tryz.func34,I0,I0⟩⟩
instance:FnC Tryz.prog 35:=⟨⟨_,Tryz.func35,I0,I0⟩⟩
instance:FnC Tryz.prog 38:=⟨⟨_,Tryz.func38,I0,I0⟩⟩
instance:FnC Tryz.prog 39:=⟨⟨_,Tryz.func39,I0,I0⟩⟩
instance:FnC Tryz.prog 81:=⟨⟨_,Tryz.func81,I0,I0⟩⟩
instance:FnC Tryz.prog 41:=⟨⟨_,Tryz.func41,I0,I0⟩⟩
instance:FnC Tryz.prog 12:=⟨⟨_,Tryz.func12,I0,I0⟩⟩
instance:FnC Tryz.prog 10:=⟨⟨_,Tryz.func10,I0,I0⟩⟩
instance:FnC Tryz.prog 13:=⟨⟨_,Tryz.func13,I0,I0⟩⟩
instance:FnC Tryz.prog 14:=⟨⟨_,Tryz.func14,I0,I0⟩⟩
instance:ZtC Tryz.prog 26 [.int .i64 0,.int .i64 0,hnil.v,hnil.v,hnil.v]:=⟨Yu⟩
instance:SlC Tryz.prog 23 3 (rI .i64) 0:=⟨V0⟩
instance:SoC Tryz.prog 26 [.int .i64 0,.int .i64 0,hnil.v,hnil.v,hnil.v] [(0,1),(1,1),(2,1),(3,1),(4,1)]:=⟨cv⟩
instance:StC Tryz.prog 26 5:=⟨J7⟩
instance:SlC Tryz.prog 22 29 (rI .u64) 0:=⟨tF⟩
instance:OnC Tryz.prog 29:=⟨O_29⟩
instance:OnC Tryz.prog 23:=⟨L1⟩
instance:ZtC Tryz.prog 80 [.bool false,.bool false,hnil.v,.int .i64 0]:=⟨mF⟩
instance:ZtC Tryz.prog 62 [.bool false,hnil.v]:=⟨J4⟩
instance:SlC Tryz.prog 60 126 (rI .u32) 0:=⟨X1⟩
instance:OnC Tryz.prog 126:=⟨Z3⟩
instance:SoC Tryz.prog 62 [.bool false,hnil.v] [(0,1),(1,1)]:=⟨av⟩
instance:StC Tryz.prog 62 2:=⟨P0⟩
instance:OnC Tryz.prog 4:=⟨O_4⟩
instance:OnC Tryz.prog 60:=⟨Al⟩
instance:SoC Tryz.prog 80 [.bool false,.bool false,hnil.v,.int .i64 0] [(0,1),(1,2),(3,1)]:=⟨qF⟩
instance:StC Tryz.prog 80 4:=⟨M9⟩
instance:OnC Tryz.prog 3:=⟨O_3⟩
instance:OnC Tryz.prog 24:=⟨O9⟩
instance:SlC Tryz.prog 24 30 (rI .u64) 0:=⟨X8⟩
instance:OnC Tryz.prog 30:=⟨Dc⟩
instance:ZtC Tryz.prog 33 [.int .i64 0,.int .i64 0,hnil.v,hnil.v,hnil.v]:=⟨th⟩
instance:SlC Tryz.prog 37 62 (rP rB (rS (rI .u32))) (false,[]):=⟨V2⟩
instance:OnC Tryz.prog 37:=⟨D4⟩
instance:SoC Tryz.prog 86 [.int .i64 0,.int .i64 0,.int .u64 0] [(0,1),(1,1),(2,1)]:=⟨kl⟩
instance:SlC Tryz.prog 83 86 rTi64i64u64 (0,0,0):=⟨Ld⟩
instance:StC Tryz.prog 86 3:=⟨Zu⟩
instance:ZtC Tryz.prog 86 [.int .i64 0,.int .i64 0,.int .u64 0]:=⟨lF⟩
instance:SlC Tryz.prog 89 4 rB false:=⟨vh⟩
instance:SlC Tryz.prog 31 37 (rS (rP rB (rS (rI .u32)))) []:=⟨A5⟩
instance:ZtC Tryz.prog 3 [.int .i64 0]:=⟨ZT_3⟩
instance:ZtC Tryz.prog 110 [hnil.v,hnil.v,.bool false,hnil.v,.int .i64 0]:=⟨pF⟩
instance:SoC Tryz.prog 110 [hnil.v,hnil.v,.bool false,hnil.v,.int .i64 0] [(0,1),(1,1),(2,2),(4,1)]:=⟨sF⟩
instance:StC Tryz.prog 110 5:=⟨jl⟩
instance:OnC Tryz.prog 31:=⟨z6⟩
instance:SoC Tryz.prog 33 [.int .i64 0,.int .i64 0,hnil.v,hnil.v,hnil.v] [(0,1),(1,1),(2,1),(3,1),(4,1)]:=⟨uh⟩
instance:StC Tryz.prog 33 5:=⟨P6⟩
instance:SlC Tryz.prog 52 23 (rS (rI .i64)) []:=⟨N9⟩
instance:SoC Tryz.prog 118 [.bool false,hnil.v,.bool false,hnil.v] [(0,2),(2,2)]:=⟨ll⟩
instance:SlC Tryz.prog 147 118 (rP rB (rP (rS (rI .u32)) (rP rB (rS (rI .u32))))) (false,[],false,[]):=⟨Y3⟩
instance:ZtC Tryz.prog 118 [.bool false,hnil.v,.bool false,hnil.v]:=⟨Qe⟩
instance:StC Tryz.prog 118 4:=⟨K5⟩
instance:OnC Tryz.prog 147:=⟨D6⟩
end Go.Proofs.YthekfonboblioabGreatDoor
