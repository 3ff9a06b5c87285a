/- Closed facts on the types and the functions of this program. -/
import Derived.Test.YthekfonboblioacGreatDoorChecked
import Derived.Test.YthekfonboblioacGreatDoorTm
import Derived.Test.YthekfonboblioacGreatDoorSyB
namespace Go.Proofs.YthekfonboblioacGreatDoor
open Go Sx
set_option maxRecDepth 100000
theorem C1:Tryz.prog.follows .mixedOrders=true:=I0
instance:FoM Tryz.prog:=⟨C1⟩
instance:KT Tryz.prog:=⟨([(2,.i64),(3,.i64),(5,.u8),(6,.u8),(12,.u64),(21,.i32),(30,.i64),(44,.u64),(46,.u64),(73,.u64),(93,.u32),(199,.u8),(200,.u8),(203,.i32),(204,.i32)],[(27,0,0),(27,1,1),(27,2,2),(27,3,3),(27,4,4),(35,0,0),(35,1,1),(35,2,2),(35,3,3),(35,4,4),(52,0,0),(52,1,1),(54,0,0),(54,1,1),(54,2,3),(62,0,0),(62,1,2),(99,0,0),(99,1,1),(99,2,2),(123,0,0),(123,1,1),(123,2,2),(123,3,4)]),I0,I0⟩
theorem ku:ZeroT Tryz.prog 27 [.int .i64 0,.int .i64 0,hnil.v,hnil.v,hnil.v]:=mkZ (zv:=.agg #[.int .i64 0,.int .i64 0,hnil.v,hnil.v,hnil.v]) I0 rfl
instance:FnC Tryz.prog 8:=⟨⟨_,Tryz.func8,I0,I0⟩⟩
theorem W0:SlT Tryz.prog 24 3 (rI .i64) 0:=N7 (zv:=.int .i64 0) (by_:=8) I0 I0 A0 (fun _ _=>rfl)
theorem rD:StructOf Tryz.prog 27 [.int .i64 0,.int .i64 0,hnil.v,hnil.v,hnil.v] [(0,1),(1,1),(2,1),(3,1),(4,1)]:=Pb I0 I0
theorem L9:StT Tryz.prog 27 5:=Ob I0
theorem tD:SlT Tryz.prog 22 44 (rI .u64) 0:=N7 (zv:=.int .u64 0) (by_:=8) I0 I0 A0 (fun _ _=>rfl)
theorem O_44:OneT Tryz.prog 44:=I9 (by kernel_rfl:Tryz.prog.underlying 44=some (.int .u64)) rfl I0
instance:FnC Tryz.prog 12:=⟨⟨_,Tryz.func12,I0,I0⟩⟩
theorem M1:OneT Tryz.prog 24:=I9 (by kernel_rfl:Tryz.prog.underlying 24=some (.slice 3)) rfl I0
instance:FnC Tryz.prog 45:=⟨⟨_,Tryz.func45,I0,I0⟩⟩
theorem nD:ZeroT Tryz.prog 54 [.bool false,.bool false,hnil.v,.int .i64 0]:=mkZ (zv:=.agg #[.bool false,.bool false,hnil.v,.int .i64 0]) I0 rfl
theorem I4:ZeroT Tryz.prog 52 [.bool false,hnil.v]:=mkZ (zv:=.agg #[.bool false,hnil.v]) I0 rfl
theorem Z1:SlT Tryz.prog 50 93 (rI .u32) 0:=N7 (zv:=.int .u32 0) (by_:=4) I0 I0 A0 (fun _ _=>rfl)
theorem Y3:OneT Tryz.prog 93:=I9 (by kernel_rfl:Tryz.prog.underlying 93=some (.int .u32)) rfl I0
instance:FnC Tryz.prog 98:=⟨⟨_,Tryz.func98,I0,I0⟩⟩
theorem nu:StructOf Tryz.prog 52 [.bool false,hnil.v] [(0,1),(1,1)]:=Pb I0 I0
theorem P0:StT Tryz.prog 52 2:=Ob I0
instance:FnC Tryz.prog 53:=⟨⟨_,Tryz.func53,I0,I0⟩⟩
instance:FnC Tryz.prog 38:=⟨⟨_,Tryz.func38,I0,I0⟩⟩
theorem O_4:OneT Tryz.prog 4:=I9 (by kernel_rfl:Tryz.prog.underlying 4=some (.bool)) rfl I0
theorem yk:OneT Tryz.prog 50:=I9 (by kernel_rfl:Tryz.prog.underlying 50=some (.slice 93)) rfl I0
instance:FnC Tryz.prog 52:=⟨⟨_,Tryz.func52,I0,I0⟩⟩
theorem qD:StructOf Tryz.prog 54 [.bool false,.bool false,hnil.v,.int .i64 0] [(0,1),(1,2),(3,1)]:=Pb I0 I0
theorem W8:StT Tryz.prog 54 4:=Ob I0
instance:FnC Tryz.prog 46:=⟨⟨_,Tryz.func46,I0,I0⟩⟩
instance:FnC Tryz.prog 140:=⟨⟨_,Tryz.func140,I0,I0⟩⟩
instance:FnC Tryz.prog 95:=⟨⟨_,Tryz.func95,I0,I0⟩⟩
instance:FnC Tryz.prog 94:=⟨⟨_,Tryz.func94,I0,I0⟩⟩
instance:FnC Tryz.prog 54:=⟨⟨_,Tryz.func54,I0,I0⟩⟩
instance:FnC Tryz.prog 55:=⟨⟨_,Tryz.func55,I0,I0⟩⟩
instance:FnC Tryz.prog 142:=⟨⟨_,Tryz.func142,I0,I0⟩⟩
instance:FnC Tryz.prog 143:=⟨⟨_,Tryz.func143,I0,I0⟩⟩
instance:FnC Tryz.prog 144:=⟨⟨_,Tryz.func144,I0,I0⟩⟩
instance:FnC Tryz.prog 58:=⟨⟨_,Tryz.func58,I0,I0⟩⟩
instance:FnC Tryz.prog 99:=⟨⟨_,Tryz.func99,I0,I0⟩⟩
instance:FnC Tryz.prog 56:=⟨⟨_,Tryz.func56,I0,I0⟩⟩
instance:FnC Tryz.prog 19:=⟨⟨_,Tryz.func19,I0,I0⟩⟩
instance:FnC Tryz.prog 96:=⟨⟨_,Tryz.func96,I0,I0⟩⟩
instance:FnC Tryz.prog 141:=⟨⟨_,Tryz.func141,I0,I0⟩⟩
instance:FnC Tryz.prog 97:=⟨⟨_,Tryz.func97,I0,I0⟩⟩
instance:FnC Tryz.prog 47:=⟨⟨_,Tryz.func47,I0,I0⟩⟩
instance:FnC Tryz.prog 85:=⟨⟨_,Tryz.func85,I0,I0⟩⟩
theorem O_3:OneT Tryz.prog 3:=I9 (by kernel_rfl:Tryz.prog.underlying 3=some (.int .i64)) rfl I0
instance:FnC Tryz.prog 49:=⟨⟨_,Tryz.func49,I0,I0⟩⟩
instance:FnC Tryz.prog 50:=⟨⟨_,Tryz.func50,I0,I0⟩⟩
instance:FnC Tryz.prog 139:=⟨⟨_,Tryz.func139,I0,I0⟩⟩
instance:FnC Tryz.prog 137:=⟨⟨_,Tryz.func137,I0,I0⟩⟩
instance:FnC Tryz.prog 176:=⟨⟨_,Tryz.func176,I0,I0⟩⟩
instance:FnC Tryz.prog 177:=⟨⟨_,Tryz.func177,I0,I0⟩⟩
instance:FnC Tryz.prog 138:=⟨⟨_,Tryz.func138,I0,I0⟩⟩
instance:FnC Tryz.prog 104:=⟨⟨_,Tryz.func104,I0,I0⟩⟩
instance:FnC Tryz.prog 93:=⟨⟨_,Tryz.func93,I0,I0⟩⟩
instance:FnC Tryz.prog 42:=⟨⟨_,Tryz.func42,I0,I0⟩⟩
instance:FnC Tryz.prog 34:=⟨⟨_,Tryz.func34,I0,I0⟩⟩
instance:FnC Tryz.prog 92:=⟨⟨_,Tryz.func92,I0,I0⟩⟩
theorem Oa:OneT Tryz.prog 25:=I9 (by kernel_rfl:Tryz.prog.underlying 25=some (.slice 46)) rfl I0
instance:FnC Tryz.prog 39:=⟨⟨_,Tryz.func39,I0,I0⟩⟩
theorem ka:SlT Tryz.prog 25 46 (rI .u64) 0:=N7 (zv:=.int .u64 0) (by_:=8) I0 I0 A0 (fun _ _=>rfl)
instance:FnC Tryz.prog 11:=⟨⟨_,Tryz.func11,I0,I0⟩⟩
theorem ud:OneT Tryz.prog 46:=I9 (by kernel_rfl:Tryz.prog.underlying 46=some (.int .u64)) rfl I0
instance:FnC Tryz.prog 44:=⟨⟨_,Tryz.func44,I0,I0⟩⟩
instance:FnC Tryz.prog 15:=⟨⟨_,Tryz.func15,I0,I0⟩⟩
instance:FnC Tryz.prog 41:=⟨⟨_,Tryz.func41,I0,I0⟩⟩
instance:FnC Tryz.prog 40:=⟨⟨_,Tryz.func40,I0,I0⟩⟩
instance:FnC Tryz.prog 48:=⟨⟨_,Tryz.func48,I0,I0⟩⟩
instance:FnC Tryz.prog 16:=⟨⟨_,Tryz.func16,I0,I0⟩⟩
instance:FnC Tryz.prog 43:=⟨⟨_,Tryz.func43,I0,I0⟩⟩
instance:FnC Tryz.prog 14:=⟨⟨_,Tryz.func14,I0,I0⟩⟩
instance:FnC Tryz.prog 13:=⟨⟨_,Tryz.func13,I0,I0⟩⟩
instance:FnC Tryz.prog 4:=⟨⟨_,Tryz.func4,I0,I0⟩⟩
instance:FnC Tryz.prog 17:=⟨⟨_,Tryz.func17,I0,I0⟩⟩
theorem Sg:SlT Tryz.prog 57 25 rH hnil:=N7 (zv:=hnil.v) (by_:=24) I0 I0 A0 (fun _ _=>rfl)
theorem qk:StructOf Tryz.prog 99 [.int .i64 0,.int .i64 0,.int .u64 0] [(0,1),(1,1),(2,1)]:=Pb I0 I0
theorem od:SlT Tryz.prog 96 99 rTi64i64u64 (0,0,0):=N7 (zv:=.agg #[.int .i64 0,.int .i64 0,.int .u64 0]) (by_:=24) I0 I0 A0 (fun _ _=>rfl)
instance:FnC Tryz.prog 51:=⟨⟨_,Tryz.func51,I0,I0⟩⟩
theorem oE:FldT Tryz.prog 99 0 0:=Zc I0
theorem nE:FldT Tryz.prog 99 1 1:=Zc I0
theorem mE:FldT Tryz.prog 99 2 2:=Zc I0
instance:FnC Tryz.prog 18:=⟨⟨_,Tryz.func18,I0,I0⟩⟩
theorem D3:SlT Tryz.prog 39 52 (rP rB (rS (rI .u32))) (false,[]):=N7 (zv:=.agg #[.bool false,hnil.v]) (by_:=32) I0 I0 A0 (fun w X=>⟨[_],_,rfl,rfl,⟨_,rfl,Imm.nil w X (rI .u32)⟩⟩)
theorem L5:SlT Tryz.prog 29 39 (rS (rP rB (rS (rI .u32)))) []:=N7 (zv:=hnil.v) (by_:=24) I0 I0 A0 (fun w X=>⟨_,rfl,Imm.nil w X (rP rB (rS (rI .u32)))⟩)
instance:FnC Tryz.prog 5:=⟨⟨_,Tryz.func5,I0,I0⟩⟩
theorem W4:OneT Tryz.prog 39:=I9 (by kernel_rfl:Tryz.prog.underlying 39=some (.slice 52)) rfl I0
theorem rk:StructOf Tryz.prog 62 [.bool false,hnil.v,.bool false,hnil.v] [(0,2),(2,2)]:=Pb I0 I0
theorem X3:SlT Tryz.prog 107 62 (rP rB (rP (rS (rI .u32)) (rP rB (rS (rI .u32))))) (false,[],false,[]):=N7 (zv:=.agg #[.bool false,hnil.v,.bool false,hnil.v]) (by_:=64) I0 I0 A0 (fun w X=>⟨[_],_,rfl,rfl,⟨[_],_,rfl,⟨_,rfl,Imm.nil w X (rI .u32)⟩,⟨[_],_,rfl,rfl,⟨_,rfl,Imm.nil w X (rI .u32)⟩⟩⟩⟩)
theorem E5:SlT Tryz.prog 65 107 rH hnil:=N7 (zv:=hnil.v) (by_:=24) I0 I0 A0 (fun _ _=>rfl)
instance:FnC Tryz.prog 21:=⟨⟨_,Tryz.func21,I0,I0⟩⟩
instance:FnC Tryz.prog 22:=⟨⟨_,Tryz.func22,I0,I0⟩⟩
theorem Ce:ZeroT Tryz.prog 62 [.bool false,hnil.v,.bool false,hnil.v]:=mkZ (zv:=.agg #[.bool false,hnil.v,.bool false,hnil.v]) I0 rfl
theorem D5:StT Tryz.prog 62 4:=Ob I0
theorem D6:OneT Tryz.prog 107:=I9 (by kernel_rfl:Tryz.prog.underlying 107=some (.slice 62)) rfl I0
theorem Te:FldT Tryz.prog 62 0 0:=Zc I0
instance:FnC Tryz.prog 57:=⟨⟨_,Tryz.func57,I0,I0⟩⟩
instance:FnC Tryz.prog 102:=⟨⟨_,Tryz.func102,I0,I0⟩⟩
instance:FnC Tryz.prog 178:=⟨⟨_,Tryz.func178,I0,I0⟩⟩
instance:FnC Tryz.prog 179:=⟨⟨_,Tryz.func179,I0,I0⟩⟩
instance:FnC Tryz.prog 145:=⟨⟨_,Tryz.func145,I0,I0⟩⟩
instance:FnC Tryz.prog 103:=⟨⟨_,Tryz.func103,I0,I0⟩⟩
instance:FnC Tryz.prog 100:=⟨⟨_,Tryz.func100,I0,I0⟩⟩
instance:FnC Tryz.prog 101:=⟨⟨_,Tryz.func101,I0,I0⟩⟩
theorem H7:FldT Tryz.prog 62 1 2:=Zc I0
instance:FnC Tryz.prog 60:=⟨⟨_,Tryz.func60,I0,I0⟩⟩
instance:FnC Tryz.prog 59:=⟨⟨_,Tryz.func59,I0,I0⟩⟩
instance:FnC Tryz.prog 61:=⟨⟨_,Tryz.func61,I0,I0⟩⟩
theorem Xu:FnT Tryz.prog 20 Tryz.f20:=⟨Tryz.func20,I0,I0⟩
instance:FnC Tryz.prog 6:=⟨⟨_,Tryz.func6,I0,I0⟩⟩
theorem jk:ZeroT Tryz.prog 35 [.int .i64 0,.int .i64 0,hnil.v,hnil.v,hnil.v]:=mkZ (zv:=.agg #[.int .i64 0,.int .i64 0,hnil.v,hnil.v,hnil.v]) I0 rfl
instance:FnC Tryz.prog 63:=⟨⟨_,Tryz.func63,I0,I0⟩⟩
instance:FnC Tryz.prog 62:=⟨⟨_,Tryz.func62,I0,I0⟩⟩
instance:FnC Tryz.prog 64:=⟨⟨_,Tryz.func64,I0,I0⟩⟩
instance:FnC Tryz.prog 23:=⟨⟨_,Tryz.func23,I0,I0⟩⟩
instance:FnC Tryz.prog 65:=⟨⟨_,Tryz.func65,I0,I0⟩⟩
instance:FnC Tryz.prog 24:=⟨⟨_,Tryz.func24,I0,I0⟩⟩
instance:FnC Tryz.prog 66:=⟨⟨_,Tryz.func66,I0,I0⟩⟩
theorem ja:SlT Tryz.prog 69 24 (rS (rI .i64)) []:=N7 (zv:=hnil.v) (by_:=24) I0 I0 A0 (fun w X=>⟨_,rfl,Imm.nil w X (rI .i64)⟩)
instance:FnC Tryz.prog 25:=⟨⟨_,Tryz.func25,I0,I0⟩⟩
instance:FnC Tryz.prog 69:=⟨⟨_,Tryz.func69,I0,I0⟩⟩
instance:FnC Tryz.prog 68:=⟨⟨_,Tryz.func68,I0,I0⟩⟩
instance:FnC Tryz.prog 146:=⟨⟨_,Tryz.func146,I0,I0⟩⟩
theorem Z2:SlT Tryz.prog 69 24 rH hnil:=N7 (zv:=hnil.v) (by_:=24) I0 I0 A0 (fun _ _=>rfl)
instance:FnC Tryz.prog 147:=⟨⟨_,Tryz.func147,I0,I0⟩⟩
instance:FnC Tryz.prog 180:=⟨⟨_,Tryz.func180,I0,I0⟩⟩
instance:FnC Tryz.prog 148:=⟨⟨_,Tryz.func148,I0,I0⟩⟩
instance:FnC Tryz.prog 105:=⟨⟨_,Tryz.func105,I0,I0⟩⟩
instance:FnC Tryz.prog 67:=⟨⟨_,Tryz.func67,I0,I0⟩⟩
instance:FnC Tryz.prog 26:=⟨⟨_,Tryz.func26,I0,I0⟩⟩
instance:FnC Tryz.prog 27:=⟨⟨_,Tryz.func27,I0,I0⟩⟩
theorem Rg:StructOf Tryz.prog 35 [.int .i64 0,.int .i64 0,hnil.v,hnil.v,hnil.v] [(0,1),(1,1),(2,1),(3,1),(4,1)]:=Pb I0 I0
theorem C8:StT Tryz.prog 35 5:=Ob I0
instance:FnC Tryz.prog 7:=⟨⟨_,Tryz.func7,I0,I0⟩⟩
theorem ob:SlT Tryz.prog 23 4 rB false:=N7 (zv:=.bool false) (by_:=1) I0 I0 A0 (fun _ _=>rfl)
theorem V5:OneT Tryz.prog 29:=I9 (by kernel_rfl:Tryz.prog.underlying 29=some (.slice 39)) rfl I0
instance:FnC Tryz.prog 106:=⟨⟨_,Tryz.func106,I0,I0⟩⟩
instance:FnC Tryz.prog 188:=⟨⟨_,Tryz.func188,I0,I0⟩⟩
instance:FnC Tryz.prog 181:=⟨⟨_,Tryz.func181,I0,I0⟩⟩
instance:FnC Tryz.prog 149:=⟨⟨_,Tryz.func149,I0,I0⟩⟩
instance:FnC Tryz.prog 107:=⟨⟨_,Tryz.func107,I0,I0⟩⟩
instance:FnC Tryz.prog 111:=⟨⟨_,Tryz.func111,I0,I0⟩⟩
instance:FnC Tryz.prog 110:=⟨⟨_,Tryz.func110,I0,I0⟩⟩
theorem lE:FnT Tryz.prog 109 Tryz.f109:=⟨Tryz.func109,I0,I0⟩
instance:FnC Tryz.prog 150:=⟨⟨_,Tryz.func150,I0,I0⟩⟩
instance:FnC Tryz.prog 108:=⟨⟨_,Tryz.func108,I0,I0⟩⟩
instance:FnC Tryz.prog 70:=⟨⟨_,Tryz.func70,I0,I0⟩⟩
instance:FnC Tryz.prog 116:=⟨⟨_,Tryz.func116,I0,I0⟩⟩
instance:FnC Tryz.prog 117:=⟨⟨_,Tryz.func117,I0,I0⟩⟩
instance:FnC Tryz.prog 77:=⟨⟨_,Tryz.func77,I0,I0⟩⟩
instance:FnC Tryz.prog 112:=⟨⟨_,Tryz.func112,I0,I0⟩⟩
instance:FnC Tryz.prog 151:=⟨⟨_,Tryz.func151,I0,I0⟩⟩
instance:FnC Tryz.prog 113:=⟨⟨_,Tryz.func113,I0,I0⟩⟩
instance:FnC Tryz.prog 152:=⟨⟨_,Tryz.func152,I0,I0⟩⟩
instance:FnC Tryz.prog 131:=⟨⟨_,Tryz.func131,I0,I0⟩⟩
instance:FnC Tryz.prog 80:=⟨⟨_,Tryz.func80,I0,I0⟩⟩
instance:FnC Tryz.prog 153:=⟨⟨_,Tryz.func153,I0,I0⟩⟩
instance:FnC Tryz.prog 182:=⟨⟨_,Tryz.func182,I0,I0⟩⟩
instance:FnC Tryz.prog 154:=⟨⟨_,Tryz.func154,I0,I0⟩⟩
instance:FnC Tryz.prog 118:=⟨⟨_,Tryz.func118,I0,I0⟩⟩
theorem gE:FnT Tryz.prog 157 Tryz.f157:=⟨Tryz.func157,I0,I0⟩
instance:FnC Tryz.prog 183:=⟨⟨_,Tryz.func183,I0,I0⟩⟩
instance:FnC Tryz.prog 156:=⟨⟨_,Tryz.func156,I0,I0⟩⟩
instance:FnC Tryz.prog 119:=⟨⟨_,Tryz.func119,I0,I0⟩⟩
instance:FnC Tryz.prog 120:=⟨⟨_,Tryz.func120,I0,I0⟩⟩
instance:FnC Tryz.prog 74:=⟨⟨_,Tryz.func74,I0,I0⟩⟩
instance:FnC Tryz.prog 155:=⟨⟨_,Tryz.func155,I0,I0⟩⟩
instance:FnC Tryz.prog 115:=⟨⟨_,Tryz.func115,I0,I0⟩⟩
instance:FnC Tryz.prog 114:=⟨⟨_,Tryz.func114,I0,I0⟩⟩
instance:FnC Tryz.prog 71:=⟨⟨_,Tryz.func71,I0,I0⟩⟩
instance:FnC Tryz.prog 72:=⟨⟨_,Tryz.func72,I0,I0⟩⟩
theorem O4:SlT Tryz.prog 29 39 rH hnil:=N7 (zv:=hnil.v) (by_:=24) I0 I0 A0 (fun _ _=>rfl)
instance:FnC Tryz.prog 73:=⟨⟨_,Tryz.func73,I0,I0⟩⟩
theorem mu:StT Tryz.prog 99 3:=Ob I0
theorem mD:ZeroT Tryz.prog 99 [.int .i64 0,.int .i64 0,.int .u64 0]:=mkZ (zv:=.agg #[.int .i64 0,.int .i64 0,.int .u64 0]) I0 rfl
instance:FnC Tryz.prog 28:=⟨⟨_,Tryz.func28,I0,I0⟩⟩
instance:FnC Tryz.prog 29:=⟨⟨_,Tryz.func29,I0,I0⟩⟩
instance:FnC Tryz.prog 30:=⟨⟨_,Tryz.func30,I0,I0⟩⟩
instance:FnC Tryz.prog 189:=⟨⟨_,Tryz.func189,I0,I0⟩⟩
instance:FnC Tryz.prog 168:=⟨⟨_,Tryz.func168,I0,I0⟩⟩
instance:FnC Tryz.prog 167:=⟨⟨_,Tryz.func167,I0,I0⟩⟩
instance:FnC Tryz.prog 125:=⟨⟨_,Tryz.func125,I0,I0⟩⟩
instance:FnC Tryz.prog 191:=⟨⟨_,Tryz.func191,I0,I0⟩⟩
instance:FnC Tryz.prog 192:=⟨⟨_,Tryz.func192,I0,I0⟩⟩
instance:FnC Tryz.prog 184:=⟨⟨_,Tryz.func184,I0,I0⟩⟩
instance:FnC Tryz.prog 126:=⟨⟨_,Tryz.func126,I0,I0⟩⟩
instance:FnC Tryz.prog 158:=⟨⟨_,Tryz.func158,I0,I0⟩⟩
instance:FnC Tryz.prog 159:=⟨⟨_,Tryz.func159,I0,I0⟩⟩
instance:FnC Tryz.prog 121:=⟨⟨_,Tryz.func121,I0,I0⟩⟩
instance:FnC Tryz.prog 75:=⟨⟨_,Tryz.func75,I0,I0⟩⟩
instance:FnC Tryz.prog 161:=⟨⟨_,Tryz.func161,I0,I0⟩⟩
theorem ZT_3:ZeroT Tryz.prog 3 [.int .i64 0]:=mkZ (zv:=.int .i64 0) I0 rfl
theorem aE:FnT Tryz.prog 186 Tryz.f186:=⟨Tryz.func186,I0,I0⟩
instance:FnC Tryz.prog 162:=⟨⟨_,Tryz.func162,I0,I0⟩⟩
instance:FnC Tryz.prog 185:=⟨⟨_,Tryz.func185,I0,I0⟩⟩
instance:FnC Tryz.prog 160:=⟨⟨_,Tryz.func160,I0,I0⟩⟩
instance:FnC Tryz.prog 122:=⟨⟨_,Tryz.func122,I0,I0⟩⟩
instance:FnC Tryz.prog 164:=⟨⟨_,Tryz.func164,I0,I0⟩⟩
instance:FnC Tryz.prog 124:=⟨⟨_,Tryz.func124,I0,I0⟩⟩
theorem fE:FnT Tryz.prog 161 Tryz.f161:=⟨Tryz.func161,I0,I0⟩
theorem dE:FnT Tryz.prog 163 Tryz.f163:=⟨Tryz.func163,I0,I0⟩
theorem eE:FnT Tryz.prog 162 Tryz.f162:=⟨Tryz.func162,I0,I0⟩
instance:FnC Tryz.prog 187:=⟨⟨_,Tryz.func187,I0,I0⟩⟩
instance:FnC Tryz.prog 165:=⟨⟨_,Tryz.func165,I0,I0⟩⟩
theorem cE:FnT Tryz.prog 166 Tryz.f166:=⟨Tryz.func166,I0,I0⟩
instance:FnC Tryz.prog 123:=⟨⟨_,Tryz.func123,I0,I0⟩⟩
theorem YD:FnT Tryz.prog 76 Tryz.f76:=⟨Tryz.func76,I0,I0⟩
instance:FnC Tryz.prog 31:=⟨⟨_,Tryz.func31,I0,I0⟩⟩
instance:FnC Tryz.prog 127:=⟨⟨_,Tryz.func127,I0,I0⟩⟩
instance:FnC Tryz.prog 79:=⟨⟨_,Tryz.func79,I0,I0⟩⟩
instance:FnC Tryz.prog 78:=⟨⟨_,Tryz.func78,I0,I0⟩⟩
instance:FnC Tryz.prog 32:=⟨⟨_,Tryz.func32,I0,I0⟩⟩
instance:FnC Tryz.prog 84:=⟨⟨_,Tryz.func84,I0,I0⟩⟩
theorem kE:FnT Tryz.prog 129 Tryz.f129:=⟨Tryz.func129,I0,I0⟩
instance:FnC Tryz.prog 169:=⟨⟨_,Tryz.func169,I0,I0⟩⟩
instance:FnC Tryz.prog 128:=⟨⟨_,Tryz.func128,I0,I0⟩⟩
instance:FnC Tryz.prog 81:=⟨⟨_,Tryz.func81,I0,I0⟩⟩
instance:FnC Tryz.prog 83:=⟨⟨_,Tryz.func83,I0,I0⟩⟩
theorem pD:ZeroT Tryz.prog 123 [hnil.v,hnil.v,.bool false,hnil.v,.int .i64 0]:=mkZ (zv:=.agg #[hnil.v,hnil.v,.bool false,hnil.v,.int .i64 0]) I0 rfl
theorem sD:StructOf Tryz.prog 123 [hnil.v,hnil.v,.bool false,hnil.v,.int .i64 0] [(0,1),(1,1),(2,2),(4,1)]:=Pb I0 I0
theorem nk:StT Tryz.prog 123 5:=Ob I0
instance:FnC Tryz.prog 190:=⟨⟨_,Tryz.func190,I0,I0⟩⟩
instance:FnC Tryz.prog 175:=⟨⟨_,Tryz.func175,I0,I0⟩⟩
instance:FnC Tryz.prog 170:=⟨⟨_,Tryz.func170,I0,I0⟩⟩
instance:FnC Tryz.prog 130:=⟨⟨_,Tryz.func130,I0,I0⟩⟩
instance:FnC Tryz.prog 82:=⟨⟨_,Tryz.func82,I0,I0⟩⟩
theorem XD:FldV Tryz.prog 123 1 1:=fvOf I0
instance:FnC Tryz.prog 33:=⟨⟨_,Tryz.func33,I0,I0⟩⟩
instance:FnC Tryz.prog 9:=⟨⟨_,Tryz.func9,I0,I0⟩⟩
instance:FnC Tryz.prog 171:=⟨⟨_,Tryz.func171,I0,I0⟩⟩
instance:FnC Tryz.prog 132:=⟨⟨_,Tryz.func132,I0,I0⟩⟩
instance:FnC Tryz.prog 133:=⟨⟨_,Tryz.func133,I0,I0⟩⟩
instance:FnC Tryz.prog 172:=⟨⟨_,Tryz.func172,I0,I0⟩⟩
instance:FnC Tryz.prog 173:=⟨⟨_,Tryz.func173,I0,I0⟩⟩
instance:FnC Tryz.prog 174:=⟨⟨_,Tryz.func174,I0,I0⟩⟩
instance:FnC Tryz.prog 134:=⟨⟨_,Tryz.func134,I0,I0⟩⟩
theorem jE:FnT Tryz.prog 133 Tryz.f133:=⟨Tryz.func133,I0,I0⟩
instance:FnC Tryz.prog 86:=⟨⟨_,Tryz.func86,I0,I0⟩⟩
instance:FnC Tryz.prog 87:=⟨⟨_,Tryz.func87,I0,I0⟩⟩
instance:FnC Tryz.prog 88:=⟨⟨_,Tryz.func88,I0,I0⟩⟩
instance:FnC Tryz.prog 135:=⟨⟨_,Tryz.func135,I0,I0⟩⟩
theorem iE:FnT Tryz.prog 136 Tryz.f136:=⟨Tryz.func136,I0,I0⟩
instance:FnC Tryz.prog 89:=⟨⟨_,Tryz.func89,I0,I0⟩⟩
instance:FnC Tryz.prog 90:=⟨⟨_,Tryz.func90,I0,I0⟩⟩
theorem ZD:FnT Tryz.prog 35 Tryz.f35:=⟨Tryz.func35,I0,I0⟩
instance:FnC Tryz.prog 36:=⟨⟨_,Tryz.func36,I0,I0⟩⟩
instance:FnC Tryz.prog 91:=⟨⟨_,Tryz.func91,I0,I0⟩⟩
instance:FnC Tryz.prog 37:=⟨⟨_,Tryz.func37,I0,I0⟩⟩
instance:FnC Tryz.prog 10:=⟨⟨_,Tryz.func10,I0,I0⟩⟩
instance:ZtC Tryz.prog 27 [.int .i64 0,.int .i64 0,hnil.v,hnil.v,hnil.v]:=⟨ku⟩
instance:SlC Tryz.prog 24 3 (rI .i64) 0:=⟨W0⟩
instance:SoC Tryz.prog 27 [.int .i64 0,.int .i64 0,hnil.v,hnil.v,hnil.v] [(0,1),(1,1),(2,1),(3,1),(4,1)]:=⟨rD⟩
instance:StC Tryz.prog 27 5:=⟨L9⟩
instance:SlC Tryz.prog 22 44 (rI .u64) 0:=⟨tD⟩
instance:OnC Tryz.prog 44:=⟨O_44⟩
instance:OnC Tryz.prog 24:=⟨M1⟩
instance:ZtC Tryz.prog 54 [.bool false,.bool false,hnil.v,.int .i64 0]:=⟨nD⟩
instance:ZtC Tryz.prog 52 [.bool false,hnil.v]:=⟨I4⟩
instance:SlC Tryz.prog 50 93 (rI .u32) 0:=⟨Z1⟩
instance:OnC Tryz.prog 93:=⟨Y3⟩
instance:SoC Tryz.prog 52 [.bool false,hnil.v] [(0,1),(1,1)]:=⟨nu⟩
instance:StC Tryz.prog 52 2:=⟨P0⟩
instance:OnC Tryz.prog 4:=⟨O_4⟩
instance:OnC Tryz.prog 50:=⟨yk⟩
instance:SoC Tryz.prog 54 [.bool false,.bool false,hnil.v,.int .i64 0] [(0,1),(1,2),(3,1)]:=⟨qD⟩
instance:StC Tryz.prog 54 4:=⟨W8⟩
instance:OnC Tryz.prog 3:=⟨O_3⟩
instance:OnC Tryz.prog 25:=⟨Oa⟩
instance:SlC Tryz.prog 25 46 (rI .u64) 0:=⟨ka⟩
instance:OnC Tryz.prog 46:=⟨ud⟩
instance:SoC Tryz.prog 99 [.int .i64 0,.int .i64 0,.int .u64 0] [(0,1),(1,1),(2,1)]:=⟨qk⟩
instance:SlC Tryz.prog 96 99 rTi64i64u64 (0,0,0):=⟨od⟩
instance:SlC Tryz.prog 39 52 (rP rB (rS (rI .u32))) (false,[]):=⟨D3⟩
instance:SlC Tryz.prog 29 39 (rS (rP rB (rS (rI .u32)))) []:=⟨L5⟩
instance:OnC Tryz.prog 39:=⟨W4⟩
instance:SoC Tryz.prog 62 [.bool false,hnil.v,.bool false,hnil.v] [(0,2),(2,2)]:=⟨rk⟩
instance:SlC Tryz.prog 107 62 (rP rB (rP (rS (rI .u32)) (rP rB (rS (rI .u32))))) (false,[],false,[]):=⟨X3⟩
instance:ZtC Tryz.prog 62 [.bool false,hnil.v,.bool false,hnil.v]:=⟨Ce⟩
instance:StC Tryz.prog 62 4:=⟨D5⟩
instance:OnC Tryz.prog 107:=⟨D6⟩
instance:ZtC Tryz.prog 35 [.int .i64 0,.int .i64 0,hnil.v,hnil.v,hnil.v]:=⟨jk⟩
instance:SlC Tryz.prog 69 24 (rS (rI .i64)) []:=⟨ja⟩
instance:SoC Tryz.prog 35 [.int .i64 0,.int .i64 0,hnil.v,hnil.v,hnil.v] [(0,1),(1,1),(2,1),(3,1),(4,1)]:=⟨Rg⟩
instance:StC Tryz.prog 35 5:=⟨C8⟩
instance:SlC Tryz.prog 23 4 rB false:=⟨ob⟩
instance:OnC Tryz.prog 29:=⟨V5⟩
instance:StC Tryz.prog 99 3:=⟨mu⟩
instance:ZtC Tryz.prog 99 [.int .i64 0,.int .i64 0,.int .u64 0]:=⟨mD⟩
instance:ZtC Tryz.prog 3 [.int .i64 0]:=⟨ZT_3⟩
instance:ZtC Tryz.prog 123 [hnil.v,hnil.v,.bool false,hnil.v,.int .i64 0]:=⟨pD⟩
instance:SoC Tryz.prog 123 [hnil.v,hnil.v,.bool false,hnil.v,.int .i64 0] [(0,1),(1,1),(2,2),(4,1)]:=⟨sD⟩
instance:StC Tryz.prog 123 5:=⟨nk⟩
end Go.Proofs.YthekfonboblioacGreatDoor
