/- Closed facts on the types and the functions of this program. -/
import Derived.Test.YthekfonboblioaaGreatDoorChecked
import Derived.Test.YthekfonboblioaaGreatDoorTm
import Derived.Test.YthekfonboblioaaGreatDoorSyB
namespace Go.Proofs.YthekfonboblioaaGreatDoor
open Go Sx
set_option maxRecDepth 100000
theorem E1:Tryz.prog.follows .mixedOrders=true:=I0
instance:FoM Tryz.prog:=⟨E1⟩
instance:KT Tryz.prog:=⟨([(2,.i64),(3,.i64),(5,.u8),(6,.u8),(12,.u64),(21,.i32),(31,.i64),(39,.u64),(41,.u64),(65,.u64),(107,.u32),(203,.u8),(204,.u8),(207,.i32),(208,.i32)],[(26,0,0),(26,1,1),(26,2,2),(26,3,3),(26,4,4),(30,0,0),(30,1,1),(30,2,2),(30,3,3),(30,4,4),(62,0,0),(62,1,1),(71,0,0),(71,1,1),(71,2,3),(79,0,0),(79,1,1),(79,2,2),(135,0,0),(135,1,1),(135,2,2),(135,3,4),(146,0,0),(146,1,2)]),I0,I0⟩
theorem CC:ZeroT Tryz.prog 26 [.int .i64 0,.int .i64 0,hnil.v,hnil.v,hnil.v]:=mkZ (zv:=.agg #[.int .i64 0,.int .i64 0,hnil.v,hnil.v,hnil.v]) I0 rfl
instance:FnC Tryz.prog 9:=⟨⟨_,Tryz.func9,I0,I0⟩⟩
theorem V0:SlT Tryz.prog 23 3 (rI .i64) 0:=D7 (zv:=.int .i64 0) (by_:=8) I0 I0 A0 (fun _ _=>rfl)
theorem FC:StructOf Tryz.prog 26 [.int .i64 0,.int .i64 0,hnil.v,hnil.v,hnil.v] [(0,1),(1,1),(2,1),(3,1),(4,1)]:=Ib I0 I0
theorem Yb:StT Tryz.prog 26 5:=Hb I0
theorem HC:SlT Tryz.prog 22 39 (rI .u64) 0:=D7 (zv:=.int .u64 0) (by_:=8) I0 I0 A0 (fun _ _=>rfl)
theorem O_39:OneT Tryz.prog 39:=w9 (by kernel_rfl:Tryz.prog.underlying 39=some (.int .u64)) rfl I0
instance:FnC Tryz.prog 11:=⟨⟨_,Tryz.func11,I0,I0⟩⟩
theorem L1:OneT Tryz.prog 23:=w9 (by kernel_rfl:Tryz.prog.underlying 23=some (.slice 3)) rfl I0
instance:FnC Tryz.prog 72:=⟨⟨_,Tryz.func72,I0,I0⟩⟩
theorem AC:ZeroT Tryz.prog 71 [.bool false,.bool false,hnil.v,.int .i64 0]:=mkZ (zv:=.agg #[.bool false,.bool false,hnil.v,.int .i64 0]) I0 rfl
theorem B4:ZeroT Tryz.prog 62 [.bool false,hnil.v]:=mkZ (zv:=.agg #[.bool false,hnil.v]) I0 rfl
theorem Q1:SlT Tryz.prog 60 107 (rI .u32) 0:=D7 (zv:=.int .u32 0) (by_:=4) I0 I0 A0 (fun _ _=>rfl)
theorem V3:OneT Tryz.prog 107:=w9 (by kernel_rfl:Tryz.prog.underlying 107=some (.int .u32)) rfl I0
instance:FnC Tryz.prog 128:=⟨⟨_,Tryz.func128,I0,I0⟩⟩
theorem Qs:StructOf Tryz.prog 62 [.bool false,hnil.v] [(0,1),(1,1)]:=Ib I0 I0
theorem P0:StT Tryz.prog 62 2:=Hb I0
instance:FnC Tryz.prog 67:=⟨⟨_,Tryz.func67,I0,I0⟩⟩
instance:FnC Tryz.prog 31:=⟨⟨_,Tryz.func31,I0,I0⟩⟩
theorem O_4:OneT Tryz.prog 4:=w9 (by kernel_rfl:Tryz.prog.underlying 4=some (.bool)) rfl I0
theorem qe:OneT Tryz.prog 60:=w9 (by kernel_rfl:Tryz.prog.underlying 60=some (.slice 107)) rfl I0
instance:FnC Tryz.prog 112:=⟨⟨_,Tryz.func112,I0,I0⟩⟩
theorem EC:StructOf Tryz.prog 71 [.bool false,.bool false,hnil.v,.int .i64 0] [(0,1),(1,2),(3,1)]:=Ib I0 I0
theorem Z7:StT Tryz.prog 71 4:=Hb I0
instance:FnC Tryz.prog 78:=⟨⟨_,Tryz.func78,I0,I0⟩⟩
instance:FnC Tryz.prog 177:=⟨⟨_,Tryz.func177,I0,I0⟩⟩
instance:FnC Tryz.prog 136:=⟨⟨_,Tryz.func136,I0,I0⟩⟩
instance:FnC Tryz.prog 77:=⟨⟨_,Tryz.func77,I0,I0⟩⟩
instance:FnC Tryz.prog 113:=⟨⟨_,Tryz.func113,I0,I0⟩⟩
instance:FnC Tryz.prog 114:=⟨⟨_,Tryz.func114,I0,I0⟩⟩
instance:FnC Tryz.prog 187:=⟨⟨_,Tryz.func187,I0,I0⟩⟩
instance:FnC Tryz.prog 188:=⟨⟨_,Tryz.func188,I0,I0⟩⟩
instance:FnC Tryz.prog 189:=⟨⟨_,Tryz.func189,I0,I0⟩⟩
instance:FnC Tryz.prog 163:=⟨⟨_,Tryz.func163,I0,I0⟩⟩
instance:FnC Tryz.prog 162:=⟨⟨_,Tryz.func162,I0,I0⟩⟩
instance:FnC Tryz.prog 115:=⟨⟨_,Tryz.func115,I0,I0⟩⟩
instance:FnC Tryz.prog 55:=⟨⟨_,Tryz.func55,I0,I0⟩⟩
instance:FnC Tryz.prog 137:=⟨⟨_,Tryz.func137,I0,I0⟩⟩
instance:FnC Tryz.prog 174:=⟨⟨_,Tryz.func174,I0,I0⟩⟩
instance:FnC Tryz.prog 132:=⟨⟨_,Tryz.func132,I0,I0⟩⟩
instance:FnC Tryz.prog 79:=⟨⟨_,Tryz.func79,I0,I0⟩⟩
instance:FnC Tryz.prog 65:=⟨⟨_,Tryz.func65,I0,I0⟩⟩
theorem O_3:OneT Tryz.prog 3:=w9 (by kernel_rfl:Tryz.prog.underlying 3=some (.int .i64)) rfl I0
instance:FnC Tryz.prog 74:=⟨⟨_,Tryz.func74,I0,I0⟩⟩
instance:FnC Tryz.prog 75:=⟨⟨_,Tryz.func75,I0,I0⟩⟩
instance:FnC Tryz.prog 135:=⟨⟨_,Tryz.func135,I0,I0⟩⟩
instance:FnC Tryz.prog 133:=⟨⟨_,Tryz.func133,I0,I0⟩⟩
instance:FnC Tryz.prog 175:=⟨⟨_,Tryz.func175,I0,I0⟩⟩
instance:FnC Tryz.prog 176:=⟨⟨_,Tryz.func176,I0,I0⟩⟩
instance:FnC Tryz.prog 134:=⟨⟨_,Tryz.func134,I0,I0⟩⟩
instance:FnC Tryz.prog 126:=⟨⟨_,Tryz.func126,I0,I0⟩⟩
instance:FnC Tryz.prog 76:=⟨⟨_,Tryz.func76,I0,I0⟩⟩
instance:FnC Tryz.prog 36:=⟨⟨_,Tryz.func36,I0,I0⟩⟩
instance:FnC Tryz.prog 28:=⟨⟨_,Tryz.func28,I0,I0⟩⟩
instance:FnC Tryz.prog 73:=⟨⟨_,Tryz.func73,I0,I0⟩⟩
theorem Ha:OneT Tryz.prog 24:=w9 (by kernel_rfl:Tryz.prog.underlying 24=some (.slice 41)) rfl I0
instance:FnC Tryz.prog 33:=⟨⟨_,Tryz.func33,I0,I0⟩⟩
theorem U9:SlT Tryz.prog 24 41 (rI .u64) 0:=D7 (zv:=.int .u64 0) (by_:=8) I0 I0 A0 (fun _ _=>rfl)
instance:FnC Tryz.prog 10:=⟨⟨_,Tryz.func10,I0,I0⟩⟩
theorem Xc:OneT Tryz.prog 41:=w9 (by kernel_rfl:Tryz.prog.underlying 41=some (.int .u64)) rfl I0
instance:FnC Tryz.prog 81:=⟨⟨_,Tryz.func81,I0,I0⟩⟩
instance:FnC Tryz.prog 39:=⟨⟨_,Tryz.func39,I0,I0⟩⟩
instance:FnC Tryz.prog 35:=⟨⟨_,Tryz.func35,I0,I0⟩⟩
instance:FnC Tryz.prog 34:=⟨⟨_,Tryz.func34,I0,I0⟩⟩
instance:FnC Tryz.prog 80:=⟨⟨_,Tryz.func80,I0,I0⟩⟩
instance:FnC Tryz.prog 38:=⟨⟨_,Tryz.func38,I0,I0⟩⟩
instance:FnC Tryz.prog 37:=⟨⟨_,Tryz.func37,I0,I0⟩⟩
instance:FnC Tryz.prog 13:=⟨⟨_,Tryz.func13,I0,I0⟩⟩
instance:FnC Tryz.prog 12:=⟨⟨_,Tryz.func12,I0,I0⟩⟩
instance:FnC Tryz.prog 4:=⟨⟨_,Tryz.func4,I0,I0⟩⟩
theorem Ns:ZeroT Tryz.prog 30 [.int .i64 0,.int .i64 0,hnil.v,hnil.v,hnil.v]:=mkZ (zv:=.agg #[.int .i64 0,.int .i64 0,hnil.v,hnil.v,hnil.v]) I0 rfl
instance:FnC Tryz.prog 82:=⟨⟨_,Tryz.func82,I0,I0⟩⟩
instance:FnC Tryz.prog 194:=⟨⟨_,Tryz.func194,I0,I0⟩⟩
instance:FnC Tryz.prog 178:=⟨⟨_,Tryz.func178,I0,I0⟩⟩
instance:FnC Tryz.prog 138:=⟨⟨_,Tryz.func138,I0,I0⟩⟩
instance:FnC Tryz.prog 83:=⟨⟨_,Tryz.func83,I0,I0⟩⟩
instance:FnC Tryz.prog 87:=⟨⟨_,Tryz.func87,I0,I0⟩⟩
instance:FnC Tryz.prog 86:=⟨⟨_,Tryz.func86,I0,I0⟩⟩
theorem lD:FnT Tryz.prog 85 Tryz.f85:=⟨Tryz.func85,I0,I0⟩
instance:FnC Tryz.prog 139:=⟨⟨_,Tryz.func139,I0,I0⟩⟩
instance:FnC Tryz.prog 84:=⟨⟨_,Tryz.func84,I0,I0⟩⟩
instance:FnC Tryz.prog 40:=⟨⟨_,Tryz.func40,I0,I0⟩⟩
instance:FnC Tryz.prog 93:=⟨⟨_,Tryz.func93,I0,I0⟩⟩
instance:FnC Tryz.prog 94:=⟨⟨_,Tryz.func94,I0,I0⟩⟩
instance:FnC Tryz.prog 47:=⟨⟨_,Tryz.func47,I0,I0⟩⟩
instance:FnC Tryz.prog 88:=⟨⟨_,Tryz.func88,I0,I0⟩⟩
instance:FnC Tryz.prog 140:=⟨⟨_,Tryz.func140,I0,I0⟩⟩
instance:FnC Tryz.prog 89:=⟨⟨_,Tryz.func89,I0,I0⟩⟩
instance:FnC Tryz.prog 141:=⟨⟨_,Tryz.func141,I0,I0⟩⟩
instance:FnC Tryz.prog 142:=⟨⟨_,Tryz.func142,I0,I0⟩⟩
instance:FnC Tryz.prog 92:=⟨⟨_,Tryz.func92,I0,I0⟩⟩
instance:FnC Tryz.prog 143:=⟨⟨_,Tryz.func143,I0,I0⟩⟩
instance:FnC Tryz.prog 179:=⟨⟨_,Tryz.func179,I0,I0⟩⟩
instance:FnC Tryz.prog 144:=⟨⟨_,Tryz.func144,I0,I0⟩⟩
instance:FnC Tryz.prog 95:=⟨⟨_,Tryz.func95,I0,I0⟩⟩
theorem uD:FnT Tryz.prog 147 Tryz.f147:=⟨Tryz.func147,I0,I0⟩
instance:FnC Tryz.prog 180:=⟨⟨_,Tryz.func180,I0,I0⟩⟩
instance:FnC Tryz.prog 146:=⟨⟨_,Tryz.func146,I0,I0⟩⟩
instance:FnC Tryz.prog 96:=⟨⟨_,Tryz.func96,I0,I0⟩⟩
instance:FnC Tryz.prog 97:=⟨⟨_,Tryz.func97,I0,I0⟩⟩
instance:FnC Tryz.prog 44:=⟨⟨_,Tryz.func44,I0,I0⟩⟩
instance:FnC Tryz.prog 145:=⟨⟨_,Tryz.func145,I0,I0⟩⟩
instance:FnC Tryz.prog 91:=⟨⟨_,Tryz.func91,I0,I0⟩⟩
instance:FnC Tryz.prog 90:=⟨⟨_,Tryz.func90,I0,I0⟩⟩
instance:FnC Tryz.prog 41:=⟨⟨_,Tryz.func41,I0,I0⟩⟩
instance:FnC Tryz.prog 42:=⟨⟨_,Tryz.func42,I0,I0⟩⟩
theorem P4:SlT Tryz.prog 28 56 rH hnil:=D7 (zv:=hnil.v) (by_:=24) I0 I0 A0 (fun _ _=>rfl)
theorem Q2:SlT Tryz.prog 56 62 (rP rB (rS (rI .u32))) (false,[]):=D7 (zv:=.agg #[.bool false,hnil.v]) (by_:=32) I0 I0 A0 (fun w X=>⟨[_],_,rfl,rfl,⟨_,rfl,Imm.nil w X (rI .u32)⟩⟩)
theorem Q4:OneT Tryz.prog 56:=w9 (by kernel_rfl:Tryz.prog.underlying 56=some (.slice 62)) rfl I0
theorem Kj:StructOf Tryz.prog 79 [.int .i64 0,.int .i64 0,.int .u64 0] [(0,1),(1,1),(2,1)]:=Ib I0 I0
theorem Tc:SlT Tryz.prog 76 79 rTi64i64u64 (0,0,0):=D7 (zv:=.agg #[.int .i64 0,.int .i64 0,.int .u64 0]) (by_:=24) I0 I0 A0 (fun _ _=>rfl)
instance:FnC Tryz.prog 43:=⟨⟨_,Tryz.func43,I0,I0⟩⟩
theorem Ps:StT Tryz.prog 79 3:=Hb I0
theorem zC:ZeroT Tryz.prog 79 [.int .i64 0,.int .i64 0,.int .u64 0]:=mkZ (zv:=.agg #[.int .i64 0,.int .i64 0,.int .u64 0]) I0 rfl
theorem wD:FldT Tryz.prog 79 2 2:=Nc I0
theorem yD:FldT Tryz.prog 79 0 0:=Nc I0
theorem xD:FldT Tryz.prog 79 1 1:=Nc I0
instance:FnC Tryz.prog 14:=⟨⟨_,Tryz.func14,I0,I0⟩⟩
theorem Dg:SlT Tryz.prog 82 4 rB false:=D7 (zv:=.bool false) (by_:=1) I0 I0 A0 (fun _ _=>rfl)
theorem P5:SlT Tryz.prog 28 56 (rS (rP rB (rS (rI .u32)))) []:=D7 (zv:=hnil.v) (by_:=24) I0 I0 A0 (fun w X=>⟨_,rfl,Imm.nil w X (rP rB (rS (rI .u32)))⟩)
instance:FnC Tryz.prog 98:=⟨⟨_,Tryz.func98,I0,I0⟩⟩
instance:FnC Tryz.prog 100:=⟨⟨_,Tryz.func100,I0,I0⟩⟩
theorem ZT_3:ZeroT Tryz.prog 3 [.int .i64 0]:=mkZ (zv:=.int .i64 0) I0 rfl
theorem tD:FnT Tryz.prog 149 Tryz.f149:=⟨Tryz.func149,I0,I0⟩
instance:FnC Tryz.prog 181:=⟨⟨_,Tryz.func181,I0,I0⟩⟩
instance:FnC Tryz.prog 148:=⟨⟨_,Tryz.func148,I0,I0⟩⟩
instance:FnC Tryz.prog 99:=⟨⟨_,Tryz.func99,I0,I0⟩⟩
instance:FnC Tryz.prog 102:=⟨⟨_,Tryz.func102,I0,I0⟩⟩
theorem DC:ZeroT Tryz.prog 135 [hnil.v,hnil.v,.bool false,hnil.v,.int .i64 0]:=mkZ (zv:=.agg #[hnil.v,hnil.v,.bool false,hnil.v,.int .i64 0]) I0 rfl
theorem GC:StructOf Tryz.prog 135 [hnil.v,hnil.v,.bool false,hnil.v,.int .i64 0] [(0,1),(1,1),(2,2),(4,1)]:=Ib I0 I0
theorem Jj:StT Tryz.prog 135 5:=Hb I0
theorem A9:OneT Tryz.prog 28:=w9 (by kernel_rfl:Tryz.prog.underlying 28=some (.slice 56)) rfl I0
instance:FnC Tryz.prog 173:=⟨⟨_,Tryz.func173,I0,I0⟩⟩
instance:FnC Tryz.prog 196:=⟨⟨_,Tryz.func196,I0,I0⟩⟩
instance:FnC Tryz.prog 193:=⟨⟨_,Tryz.func193,I0,I0⟩⟩
instance:FnC Tryz.prog 192:=⟨⟨_,Tryz.func192,I0,I0⟩⟩
instance:FnC Tryz.prog 171:=⟨⟨_,Tryz.func171,I0,I0⟩⟩
instance:FnC Tryz.prog 172:=⟨⟨_,Tryz.func172,I0,I0⟩⟩
instance:FnC Tryz.prog 130:=⟨⟨_,Tryz.func130,I0,I0⟩⟩
instance:FnC Tryz.prog 183:=⟨⟨_,Tryz.func183,I0,I0⟩⟩
instance:FnC Tryz.prog 184:=⟨⟨_,Tryz.func184,I0,I0⟩⟩
instance:FnC Tryz.prog 185:=⟨⟨_,Tryz.func185,I0,I0⟩⟩
instance:FnC Tryz.prog 151:=⟨⟨_,Tryz.func151,I0,I0⟩⟩
instance:FnC Tryz.prog 152:=⟨⟨_,Tryz.func152,I0,I0⟩⟩
instance:FnC Tryz.prog 131:=⟨⟨_,Tryz.func131,I0,I0⟩⟩
instance:FnC Tryz.prog 195:=⟨⟨_,Tryz.func195,I0,I0⟩⟩
instance:FnC Tryz.prog 106:=⟨⟨_,Tryz.func106,I0,I0⟩⟩
instance:FnC Tryz.prog 182:=⟨⟨_,Tryz.func182,I0,I0⟩⟩
instance:FnC Tryz.prog 150:=⟨⟨_,Tryz.func150,I0,I0⟩⟩
instance:FnC Tryz.prog 101:=⟨⟨_,Tryz.func101,I0,I0⟩⟩
theorem kD:FldV Tryz.prog 135 1 1:=fvOf I0
instance:FnC Tryz.prog 71:=⟨⟨_,Tryz.func71,I0,I0⟩⟩
instance:FnC Tryz.prog 45:=⟨⟨_,Tryz.func45,I0,I0⟩⟩
instance:FnC Tryz.prog 46:=⟨⟨_,Tryz.func46,I0,I0⟩⟩
instance:FnC Tryz.prog 103:=⟨⟨_,Tryz.func103,I0,I0⟩⟩
instance:FnC Tryz.prog 104:=⟨⟨_,Tryz.func104,I0,I0⟩⟩
instance:FnC Tryz.prog 105:=⟨⟨_,Tryz.func105,I0,I0⟩⟩
instance:FnC Tryz.prog 48:=⟨⟨_,Tryz.func48,I0,I0⟩⟩
theorem nD:FnT Tryz.prog 46 Tryz.f46:=⟨Tryz.func46,I0,I0⟩
instance:FnC Tryz.prog 15:=⟨⟨_,Tryz.func15,I0,I0⟩⟩
theorem zg:StructOf Tryz.prog 30 [.int .i64 0,.int .i64 0,hnil.v,hnil.v,hnil.v] [(0,1),(1,1),(2,1),(3,1),(4,1)]:=Ib I0 I0
theorem b00:StT Tryz.prog 30 5:=Hb I0
instance:FnC Tryz.prog 49:=⟨⟨_,Tryz.func49,I0,I0⟩⟩
instance:FnC Tryz.prog 16:=⟨⟨_,Tryz.func16,I0,I0⟩⟩
theorem C3:SlT Tryz.prog 48 23 rH hnil:=D7 (zv:=hnil.v) (by_:=24) I0 I0 A0 (fun _ _=>rfl)
instance:FnC Tryz.prog 153:=⟨⟨_,Tryz.func153,I0,I0⟩⟩
instance:FnC Tryz.prog 107:=⟨⟨_,Tryz.func107,I0,I0⟩⟩
instance:FnC Tryz.prog 50:=⟨⟨_,Tryz.func50,I0,I0⟩⟩
instance:FnC Tryz.prog 17:=⟨⟨_,Tryz.func17,I0,I0⟩⟩
theorem M8:SlT Tryz.prog 48 23 (rS (rI .i64)) []:=D7 (zv:=hnil.v) (by_:=24) I0 I0 A0 (fun w X=>⟨_,rfl,Imm.nil w X (rI .i64)⟩)
instance:FnC Tryz.prog 51:=⟨⟨_,Tryz.func51,I0,I0⟩⟩
instance:FnC Tryz.prog 154:=⟨⟨_,Tryz.func154,I0,I0⟩⟩
theorem rD:FnT Tryz.prog 156 Tryz.f156:=⟨Tryz.func156,I0,I0⟩
instance:FnC Tryz.prog 157:=⟨⟨_,Tryz.func157,I0,I0⟩⟩
instance:FnC Tryz.prog 155:=⟨⟨_,Tryz.func155,I0,I0⟩⟩
instance:FnC Tryz.prog 108:=⟨⟨_,Tryz.func108,I0,I0⟩⟩
instance:FnC Tryz.prog 159:=⟨⟨_,Tryz.func159,I0,I0⟩⟩
instance:FnC Tryz.prog 110:=⟨⟨_,Tryz.func110,I0,I0⟩⟩
theorem sD:FnT Tryz.prog 154 Tryz.f154:=⟨Tryz.func154,I0,I0⟩
theorem pD:FnT Tryz.prog 158 Tryz.f158:=⟨Tryz.func158,I0,I0⟩
theorem qD:FnT Tryz.prog 157 Tryz.f157:=⟨Tryz.func157,I0,I0⟩
instance:FnC Tryz.prog 186:=⟨⟨_,Tryz.func186,I0,I0⟩⟩
instance:FnC Tryz.prog 160:=⟨⟨_,Tryz.func160,I0,I0⟩⟩
theorem oD:FnT Tryz.prog 161 Tryz.f161:=⟨Tryz.func161,I0,I0⟩
instance:FnC Tryz.prog 109:=⟨⟨_,Tryz.func109,I0,I0⟩⟩
theorem mD:FnT Tryz.prog 52 Tryz.f52:=⟨Tryz.func52,I0,I0⟩
instance:FnC Tryz.prog 18:=⟨⟨_,Tryz.func18,I0,I0⟩⟩
instance:FnC Tryz.prog 19:=⟨⟨_,Tryz.func19,I0,I0⟩⟩
theorem Vt:FnT Tryz.prog 5 Tryz.f5:=⟨Tryz.func5,I0,I0⟩
instance:FnC Tryz.prog 53:=⟨⟨_,Tryz.func53,I0,I0⟩⟩
theorem Eg:SlT Tryz.prog 92 24 rH hnil:=D7 (zv:=hnil.v) (by_:=24) I0 I0 A0 (fun _ _=>rfl)
instance:FnC Tryz.prog 111:=⟨⟨_,Tryz.func111,I0,I0⟩⟩
instance:FnC Tryz.prog 54:=⟨⟨_,Tryz.func54,I0,I0⟩⟩
instance:FnC Tryz.prog 20:=⟨⟨_,Tryz.func20,I0,I0⟩⟩
instance:FnC Tryz.prog 57:=⟨⟨_,Tryz.func57,I0,I0⟩⟩
theorem Ag:StructOf Tryz.prog 146 [.bool false,hnil.v,.bool false,hnil.v] [(0,2),(2,2)]:=Ib I0 I0
theorem S3:SlT Tryz.prog 149 146 (rP rB (rP (rS (rI .u32)) (rP rB (rS (rI .u32))))) (false,[],false,[]):=D7 (zv:=.agg #[.bool false,hnil.v,.bool false,hnil.v]) (by_:=64) I0 I0 A0 (fun w X=>⟨[_],_,rfl,rfl,⟨[_],_,rfl,⟨_,rfl,Imm.nil w X (rI .u32)⟩,⟨[_],_,rfl,rfl,⟨_,rfl,Imm.nil w X (rI .u32)⟩⟩⟩⟩)
theorem w5:SlT Tryz.prog 143 149 rH hnil:=D7 (zv:=hnil.v) (by_:=24) I0 I0 A0 (fun _ _=>rfl)
instance:FnC Tryz.prog 118:=⟨⟨_,Tryz.func118,I0,I0⟩⟩
instance:FnC Tryz.prog 117:=⟨⟨_,Tryz.func117,I0,I0⟩⟩
theorem Za:ZeroT Tryz.prog 146 [.bool false,hnil.v,.bool false,hnil.v]:=mkZ (zv:=.agg #[.bool false,hnil.v,.bool false,hnil.v]) I0 rfl
theorem E4:StT Tryz.prog 146 4:=Hb I0
theorem w6:OneT Tryz.prog 149:=w9 (by kernel_rfl:Tryz.prog.underlying 149=some (.slice 146)) rfl I0
theorem Ge:FldT Tryz.prog 146 0 0:=Nc I0
instance:FnC Tryz.prog 164:=⟨⟨_,Tryz.func164,I0,I0⟩⟩
instance:FnC Tryz.prog 165:=⟨⟨_,Tryz.func165,I0,I0⟩⟩
instance:FnC Tryz.prog 190:=⟨⟨_,Tryz.func190,I0,I0⟩⟩
instance:FnC Tryz.prog 166:=⟨⟨_,Tryz.func166,I0,I0⟩⟩
instance:FnC Tryz.prog 125:=⟨⟨_,Tryz.func125,I0,I0⟩⟩
instance:FnC Tryz.prog 124:=⟨⟨_,Tryz.func124,I0,I0⟩⟩
instance:FnC Tryz.prog 123:=⟨⟨_,Tryz.func123,I0,I0⟩⟩
theorem y7:FldT Tryz.prog 146 1 2:=Nc I0
instance:FnC Tryz.prog 122:=⟨⟨_,Tryz.func122,I0,I0⟩⟩
instance:FnC Tryz.prog 121:=⟨⟨_,Tryz.func121,I0,I0⟩⟩
instance:FnC Tryz.prog 120:=⟨⟨_,Tryz.func120,I0,I0⟩⟩
theorem Wt:FnT Tryz.prog 119 Tryz.f119:=⟨Tryz.func119,I0,I0⟩
instance:FnC Tryz.prog 116:=⟨⟨_,Tryz.func116,I0,I0⟩⟩
instance:FnC Tryz.prog 56:=⟨⟨_,Tryz.func56,I0,I0⟩⟩
instance:FnC Tryz.prog 58:=⟨⟨_,Tryz.func58,I0,I0⟩⟩
instance:FnC Tryz.prog 21:=⟨⟨_,Tryz.func21,I0,I0⟩⟩
instance:FnC Tryz.prog 59:=⟨⟨_,Tryz.func59,I0,I0⟩⟩
instance:FnC Tryz.prog 22:=⟨⟨_,Tryz.func22,I0,I0⟩⟩
instance:FnC Tryz.prog 60:=⟨⟨_,Tryz.func60,I0,I0⟩⟩
instance:FnC Tryz.prog 23:=⟨⟨_,Tryz.func23,I0,I0⟩⟩
instance:FnC Tryz.prog 63:=⟨⟨_,Tryz.func63,I0,I0⟩⟩
instance:FnC Tryz.prog 62:=⟨⟨_,Tryz.func62,I0,I0⟩⟩
instance:FnC Tryz.prog 167:=⟨⟨_,Tryz.func167,I0,I0⟩⟩
instance:FnC Tryz.prog 168:=⟨⟨_,Tryz.func168,I0,I0⟩⟩
instance:FnC Tryz.prog 191:=⟨⟨_,Tryz.func191,I0,I0⟩⟩
instance:FnC Tryz.prog 169:=⟨⟨_,Tryz.func169,I0,I0⟩⟩
instance:FnC Tryz.prog 127:=⟨⟨_,Tryz.func127,I0,I0⟩⟩
instance:FnC Tryz.prog 61:=⟨⟨_,Tryz.func61,I0,I0⟩⟩
instance:FnC Tryz.prog 24:=⟨⟨_,Tryz.func24,I0,I0⟩⟩
instance:FnC Tryz.prog 25:=⟨⟨_,Tryz.func25,I0,I0⟩⟩
instance:FnC Tryz.prog 6:=⟨⟨_,Tryz.func6,I0,I0⟩⟩
instance:FnC Tryz.prog 26:=⟨⟨_,Tryz.func26,I0,I0⟩⟩
instance:FnC Tryz.prog 66:=⟨⟨_,Tryz.func66,I0,I0⟩⟩
instance:FnC Tryz.prog 30:=⟨⟨_,Tryz.func30,I0,I0⟩⟩
instance:FnC Tryz.prog 64:=⟨⟨_,Tryz.func64,I0,I0⟩⟩
instance:FnC Tryz.prog 27:=⟨⟨_,Tryz.func27,I0,I0⟩⟩
instance:FnC Tryz.prog 7:=⟨⟨_,Tryz.func7,I0,I0⟩⟩
instance:FnC Tryz.prog 29:=⟨⟨_,Tryz.func29,I0,I0⟩⟩
instance:FnC Tryz.prog 68:=⟨⟨_,Tryz.func68,I0,I0⟩⟩
instance:FnC Tryz.prog 170:=⟨⟨_,Tryz.func170,I0,I0⟩⟩
theorem vD:FnT Tryz.prog 129 Tryz.f129:=⟨Tryz.func129,I0,I0⟩
instance:FnC Tryz.prog 69:=⟨⟨_,Tryz.func69,I0,I0⟩⟩
instance:FnC Tryz.prog 70:=⟨⟨_,Tryz.func70,I0,I0⟩⟩
instance:FnC Tryz.prog 32:=⟨⟨_,Tryz.func32,I0,I0⟩⟩
instance:FnC Tryz.prog 8:=⟨⟨_,Tryz.func8,I0,I0⟩⟩
instance:ZtC Tryz.prog 26 [.int .i64 0,.int .i64 0,hnil.v,hnil.v,hnil.v]:=⟨CC⟩
instance:SlC Tryz.prog 23 3 (rI .i64) 0:=⟨V0⟩
instance:SoC Tryz.prog 26 [.int .i64 0,.int .i64 0,hnil.v,hnil.v,hnil.v] [(0,1),(1,1),(2,1),(3,1),(4,1)]:=⟨FC⟩
instance:StC Tryz.prog 26 5:=⟨Yb⟩
instance:SlC Tryz.prog 22 39 (rI .u64) 0:=⟨HC⟩
instance:OnC Tryz.prog 39:=⟨O_39⟩
instance:OnC Tryz.prog 23:=⟨L1⟩
instance:ZtC Tryz.prog 71 [.bool false,.bool false,hnil.v,.int .i64 0]:=⟨AC⟩
instance:ZtC Tryz.prog 62 [.bool false,hnil.v]:=⟨B4⟩
instance:SlC Tryz.prog 60 107 (rI .u32) 0:=⟨Q1⟩
instance:OnC Tryz.prog 107:=⟨V3⟩
instance:SoC Tryz.prog 62 [.bool false,hnil.v] [(0,1),(1,1)]:=⟨Qs⟩
instance:StC Tryz.prog 62 2:=⟨P0⟩
instance:OnC Tryz.prog 4:=⟨O_4⟩
instance:OnC Tryz.prog 60:=⟨qe⟩
instance:SoC Tryz.prog 71 [.bool false,.bool false,hnil.v,.int .i64 0] [(0,1),(1,2),(3,1)]:=⟨EC⟩
instance:StC Tryz.prog 71 4:=⟨Z7⟩
instance:OnC Tryz.prog 3:=⟨O_3⟩
instance:OnC Tryz.prog 24:=⟨Ha⟩
instance:SlC Tryz.prog 24 41 (rI .u64) 0:=⟨U9⟩
instance:OnC Tryz.prog 41:=⟨Xc⟩
instance:ZtC Tryz.prog 30 [.int .i64 0,.int .i64 0,hnil.v,hnil.v,hnil.v]:=⟨Ns⟩
instance:SlC Tryz.prog 56 62 (rP rB (rS (rI .u32))) (false,[]):=⟨Q2⟩
instance:OnC Tryz.prog 56:=⟨Q4⟩
instance:SoC Tryz.prog 79 [.int .i64 0,.int .i64 0,.int .u64 0] [(0,1),(1,1),(2,1)]:=⟨Kj⟩
instance:SlC Tryz.prog 76 79 rTi64i64u64 (0,0,0):=⟨Tc⟩
instance:StC Tryz.prog 79 3:=⟨Ps⟩
instance:ZtC Tryz.prog 79 [.int .i64 0,.int .i64 0,.int .u64 0]:=⟨zC⟩
instance:SlC Tryz.prog 82 4 rB false:=⟨Dg⟩
instance:SlC Tryz.prog 28 56 (rS (rP rB (rS (rI .u32)))) []:=⟨P5⟩
instance:ZtC Tryz.prog 3 [.int .i64 0]:=⟨ZT_3⟩
instance:ZtC Tryz.prog 135 [hnil.v,hnil.v,.bool false,hnil.v,.int .i64 0]:=⟨DC⟩
instance:SoC Tryz.prog 135 [hnil.v,hnil.v,.bool false,hnil.v,.int .i64 0] [(0,1),(1,1),(2,2),(4,1)]:=⟨GC⟩
instance:StC Tryz.prog 135 5:=⟨Jj⟩
instance:OnC Tryz.prog 28:=⟨A9⟩
instance:SoC Tryz.prog 30 [.int .i64 0,.int .i64 0,hnil.v,hnil.v,hnil.v] [(0,1),(1,1),(2,1),(3,1),(4,1)]:=⟨zg⟩
instance:StC Tryz.prog 30 5:=⟨b00⟩
instance:SlC Tryz.prog 48 23 (rS (rI .i64)) []:=⟨M8⟩
instance:SoC Tryz.prog 146 [.bool false,hnil.v,.bool false,hnil.v] [(0,2),(2,2)]:=⟨Ag⟩
instance:SlC Tryz.prog 149 146 (rP rB (rP (rS (rI .u32)) (rP rB (rS (rI .u32))))) (false,[],false,[]):=⟨S3⟩
instance:ZtC Tryz.prog 146 [.bool false,hnil.v,.bool false,hnil.v]:=⟨Za⟩
instance:StC Tryz.prog 146 4:=⟨E4⟩
instance:OnC Tryz.prog 149:=⟨w6⟩
end Go.Proofs.YthekfonboblioaaGreatDoor
