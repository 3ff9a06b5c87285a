/- Closed facts on the types and the functions of this program. -/
import Derived.Test.YtcoaljcfifecgaeGreatDoorChecked
import Derived.Test.YtcoaljcfifecgaeGreatDoorTm
import Derived.Test.YtcoaljcfifecgaeGreatDoorSyB
namespace Go.Proofs.YtcoaljcfifecgaeGreatDoor
open Go Sx
set_option maxRecDepth 100000
theorem folM:Tryz.prog.follows .mixedOrders=true:=by kernel_rfl
instance:FoM Tryz.prog:=⟨folM⟩
instance:KT Tryz.prog:=⟨([(2,.i64),(3,.i64),(5,.u8),(6,.u8),(12,.u64),(21,.i32),(31,.i64),(42,.u64),(44,.u64),(83,.u64),(106,.u32),(190,.u8),(191,.u8),(194,.i32),(195,.i32)],[(26,0,0),(26,1,1),(26,2,2),(26,3,3),(26,4,4),(30,0,0),(30,1,1),(30,2,2),(30,3,3),(30,4,4),(60,0,0),(60,1,1),(64,0,0),(64,1,1),(64,2,3),(72,0,0),(72,1,2),(92,0,0),(92,1,1),(92,2,2),(123,0,0),(123,1,1),(123,2,2),(123,3,4)]),by kernel_rfl,by kernel_rfl⟩
theorem ZT_26:ZeroT Tryz.prog 26 [.int .i64 0,.int .i64 0,hnil.v,hnil.v,hnil.v]:=mkZ (zv:=.agg #[.int .i64 0,.int .i64 0,hnil.v,hnil.v,hnil.v]) (by kernel_rfl) rfl
instance:FnC Tryz.prog 10:=⟨⟨_,Tryz.func10,by kernel_rfl,by kernel_rfl⟩⟩
theorem SL_23:SlT Tryz.prog 23 3 (rI .i64) 0:=mkSl (zv:=.int .i64 0) (by_:=8) (by kernel_rfl) (by kernel_rfl) (by omega) (fun _ _=>rfl)
theorem SO_26:StructOf Tryz.prog 26 [.int .i64 0,.int .i64 0,hnil.v,hnil.v,hnil.v] [(0,1),(1,1),(2,1),(3,1),(4,1)]:=soOf (by kernel_rfl) (by kernel_rfl)
theorem ST_26:StT Tryz.prog 26 5:=stOf (by kernel_rfl)
theorem SL_22:SlT Tryz.prog 22 42 (rI .u64) 0:=mkSl (zv:=.int .u64 0) (by_:=8) (by kernel_rfl) (by kernel_rfl) (by omega) (fun _ _=>rfl)
theorem O_42:OneT Tryz.prog 42:=mkOne (by kernel_rfl:Tryz.prog.underlying 42=some (.int .u64)) rfl (by kernel_rfl)
instance:FnC Tryz.prog 12:=⟨⟨_,Tryz.func12,by kernel_rfl,by kernel_rfl⟩⟩
theorem O_23:OneT Tryz.prog 23:=mkOne (by kernel_rfl:Tryz.prog.underlying 23=some (.slice 3)) rfl (by kernel_rfl)
instance:FnC Tryz.prog 59:=⟨⟨_,Tryz.func59,by kernel_rfl,by kernel_rfl⟩⟩
theorem ZT_64:ZeroT Tryz.prog 64 [.bool false,.bool false,hnil.v,.int .i64 0]:=mkZ (zv:=.agg #[.bool false,.bool false,hnil.v,.int .i64 0]) (by kernel_rfl) rfl
theorem ZT_60:ZeroT Tryz.prog 60 [.bool false,hnil.v]:=mkZ (zv:=.agg #[.bool false,hnil.v]) (by kernel_rfl) rfl
theorem SL_58:SlT Tryz.prog 58 106 (rI .u32) 0:=mkSl (zv:=.int .u32 0) (by_:=4) (by kernel_rfl) (by kernel_rfl) (by omega) (fun _ _=>rfl)
theorem O_106:OneT Tryz.prog 106:=mkOne (by kernel_rfl:Tryz.prog.underlying 106=some (.int .u32)) rfl (by kernel_rfl)
instance:FnC Tryz.prog 110:=⟨⟨_,Tryz.func110,by kernel_rfl,by kernel_rfl⟩⟩
theorem SO_60:StructOf Tryz.prog 60 [.bool false,hnil.v] [(0,1),(1,1)]:=soOf (by kernel_rfl) (by kernel_rfl)
theorem ST_60:StT Tryz.prog 60 2:=stOf (by kernel_rfl)
instance:FnC Tryz.prog 57:=⟨⟨_,Tryz.func57,by kernel_rfl,by kernel_rfl⟩⟩
instance:FnC Tryz.prog 24:=⟨⟨_,Tryz.func24,by kernel_rfl,by kernel_rfl⟩⟩
theorem O_4:OneT Tryz.prog 4:=mkOne (by kernel_rfl:Tryz.prog.underlying 4=some (.bool)) rfl (by kernel_rfl)
theorem O_58:OneT Tryz.prog 58:=mkOne (by kernel_rfl:Tryz.prog.underlying 58=some (.slice 106)) rfl (by kernel_rfl)
instance:FnC Tryz.prog 66:=⟨⟨_,Tryz.func66,by kernel_rfl,by kernel_rfl⟩⟩
theorem SO_64:StructOf Tryz.prog 64 [.bool false,.bool false,hnil.v,.int .i64 0] [(0,1),(1,2),(3,1)]:=soOf (by kernel_rfl) (by kernel_rfl)
theorem ST_64:StT Tryz.prog 64 4:=stOf (by kernel_rfl)
instance:FnC Tryz.prog 60:=⟨⟨_,Tryz.func60,by kernel_rfl,by kernel_rfl⟩⟩
instance:FnC Tryz.prog 150:=⟨⟨_,Tryz.func150,by kernel_rfl,by kernel_rfl⟩⟩
instance:FnC Tryz.prog 111:=⟨⟨_,Tryz.func111,by kernel_rfl,by kernel_rfl⟩⟩
instance:FnC Tryz.prog 85:=⟨⟨_,Tryz.func85,by kernel_rfl,by kernel_rfl⟩⟩
instance:FnC Tryz.prog 67:=⟨⟨_,Tryz.func67,by kernel_rfl,by kernel_rfl⟩⟩
instance:FnC Tryz.prog 68:=⟨⟨_,Tryz.func68,by kernel_rfl,by kernel_rfl⟩⟩
instance:FnC Tryz.prog 152:=⟨⟨_,Tryz.func152,by kernel_rfl,by kernel_rfl⟩⟩
instance:FnC Tryz.prog 153:=⟨⟨_,Tryz.func153,by kernel_rfl,by kernel_rfl⟩⟩
instance:FnC Tryz.prog 154:=⟨⟨_,Tryz.func154,by kernel_rfl,by kernel_rfl⟩⟩
instance:FnC Tryz.prog 71:=⟨⟨_,Tryz.func71,by kernel_rfl,by kernel_rfl⟩⟩
instance:FnC Tryz.prog 114:=⟨⟨_,Tryz.func114,by kernel_rfl,by kernel_rfl⟩⟩
instance:FnC Tryz.prog 69:=⟨⟨_,Tryz.func69,by kernel_rfl,by kernel_rfl⟩⟩
instance:FnC Tryz.prog 29:=⟨⟨_,Tryz.func29,by kernel_rfl,by kernel_rfl⟩⟩
instance:FnC Tryz.prog 112:=⟨⟨_,Tryz.func112,by kernel_rfl,by kernel_rfl⟩⟩
instance:FnC Tryz.prog 151:=⟨⟨_,Tryz.func151,by kernel_rfl,by kernel_rfl⟩⟩
instance:FnC Tryz.prog 113:=⟨⟨_,Tryz.func113,by kernel_rfl,by kernel_rfl⟩⟩
instance:FnC Tryz.prog 61:=⟨⟨_,Tryz.func61,by kernel_rfl,by kernel_rfl⟩⟩
instance:FnC Tryz.prog 55:=⟨⟨_,Tryz.func55,by kernel_rfl,by kernel_rfl⟩⟩
theorem O_3:OneT Tryz.prog 3:=mkOne (by kernel_rfl:Tryz.prog.underlying 3=some (.int .i64)) rfl (by kernel_rfl)
instance:FnC Tryz.prog 63:=⟨⟨_,Tryz.func63,by kernel_rfl,by kernel_rfl⟩⟩
instance:FnC Tryz.prog 64:=⟨⟨_,Tryz.func64,by kernel_rfl,by kernel_rfl⟩⟩
instance:FnC Tryz.prog 129:=⟨⟨_,Tryz.func129,by kernel_rfl,by kernel_rfl⟩⟩
instance:FnC Tryz.prog 126:=⟨⟨_,Tryz.func126,by kernel_rfl,by kernel_rfl⟩⟩
instance:FnC Tryz.prog 160:=⟨⟨_,Tryz.func160,by kernel_rfl,by kernel_rfl⟩⟩
instance:FnC Tryz.prog 161:=⟨⟨_,Tryz.func161,by kernel_rfl,by kernel_rfl⟩⟩
instance:FnC Tryz.prog 127:=⟨⟨_,Tryz.func127,by kernel_rfl,by kernel_rfl⟩⟩
instance:FnC Tryz.prog 128:=⟨⟨_,Tryz.func128,by kernel_rfl,by kernel_rfl⟩⟩
instance:FnC Tryz.prog 84:=⟨⟨_,Tryz.func84,by kernel_rfl,by kernel_rfl⟩⟩
instance:FnC Tryz.prog 41:=⟨⟨_,Tryz.func41,by kernel_rfl,by kernel_rfl⟩⟩
instance:FnC Tryz.prog 21:=⟨⟨_,Tryz.func21,by kernel_rfl,by kernel_rfl⟩⟩
instance:FnC Tryz.prog 83:=⟨⟨_,Tryz.func83,by kernel_rfl,by kernel_rfl⟩⟩
theorem O_24:OneT Tryz.prog 24:=mkOne (by kernel_rfl:Tryz.prog.underlying 24=some (.slice 44)) rfl (by kernel_rfl)
instance:FnC Tryz.prog 38:=⟨⟨_,Tryz.func38,by kernel_rfl,by kernel_rfl⟩⟩
theorem SL_24:SlT Tryz.prog 24 44 (rI .u64) 0:=mkSl (zv:=.int .u64 0) (by_:=8) (by kernel_rfl) (by kernel_rfl) (by omega) (fun _ _=>rfl)
instance:FnC Tryz.prog 11:=⟨⟨_,Tryz.func11,by kernel_rfl,by kernel_rfl⟩⟩
theorem O_44:OneT Tryz.prog 44:=mkOne (by kernel_rfl:Tryz.prog.underlying 44=some (.int .u64)) rfl (by kernel_rfl)
instance:FnC Tryz.prog 58:=⟨⟨_,Tryz.func58,by kernel_rfl,by kernel_rfl⟩⟩
instance:FnC Tryz.prog 25:=⟨⟨_,Tryz.func25,by kernel_rfl,by kernel_rfl⟩⟩
instance:FnC Tryz.prog 40:=⟨⟨_,Tryz.func40,by kernel_rfl,by kernel_rfl⟩⟩
instance:FnC Tryz.prog 39:=⟨⟨_,Tryz.func39,by kernel_rfl,by kernel_rfl⟩⟩
instance:FnC Tryz.prog 62:=⟨⟨_,Tryz.func62,by kernel_rfl,by kernel_rfl⟩⟩
instance:FnC Tryz.prog 26:=⟨⟨_,Tryz.func26,by kernel_rfl,by kernel_rfl⟩⟩
instance:FnC Tryz.prog 42:=⟨⟨_,Tryz.func42,by kernel_rfl,by kernel_rfl⟩⟩
instance:FnC Tryz.prog 14:=⟨⟨_,Tryz.func14,by kernel_rfl,by kernel_rfl⟩⟩
instance:FnC Tryz.prog 13:=⟨⟨_,Tryz.func13,by kernel_rfl,by kernel_rfl⟩⟩
instance:FnC Tryz.prog 4:=⟨⟨_,Tryz.func4,by kernel_rfl,by kernel_rfl⟩⟩
theorem ZT_30:ZeroT Tryz.prog 30 [.int .i64 0,.int .i64 0,hnil.v,hnil.v,hnil.v]:=mkZ (zv:=.agg #[.int .i64 0,.int .i64 0,hnil.v,hnil.v,hnil.v]) (by kernel_rfl) rfl
instance:FnC Tryz.prog 86:=⟨⟨_,Tryz.func86,by kernel_rfl,by kernel_rfl⟩⟩
instance:FnC Tryz.prog 170:=⟨⟨_,Tryz.func170,by kernel_rfl,by kernel_rfl⟩⟩
instance:FnC Tryz.prog 162:=⟨⟨_,Tryz.func162,by kernel_rfl,by kernel_rfl⟩⟩
instance:FnC Tryz.prog 130:=⟨⟨_,Tryz.func130,by kernel_rfl,by kernel_rfl⟩⟩
instance:FnC Tryz.prog 87:=⟨⟨_,Tryz.func87,by kernel_rfl,by kernel_rfl⟩⟩
instance:FnC Tryz.prog 91:=⟨⟨_,Tryz.func91,by kernel_rfl,by kernel_rfl⟩⟩
instance:FnC Tryz.prog 90:=⟨⟨_,Tryz.func90,by kernel_rfl,by kernel_rfl⟩⟩
theorem FN_89:FnT Tryz.prog 89 Tryz.f89:=⟨Tryz.func89,by kernel_rfl,by kernel_rfl⟩
instance:FnC Tryz.prog 131:=⟨⟨_,Tryz.func131,by kernel_rfl,by kernel_rfl⟩⟩
instance:FnC Tryz.prog 88:=⟨⟨_,Tryz.func88,by kernel_rfl,by kernel_rfl⟩⟩
instance:FnC Tryz.prog 43:=⟨⟨_,Tryz.func43,by kernel_rfl,by kernel_rfl⟩⟩
instance:FnC Tryz.prog 96:=⟨⟨_,Tryz.func96,by kernel_rfl,by kernel_rfl⟩⟩
instance:FnC Tryz.prog 97:=⟨⟨_,Tryz.func97,by kernel_rfl,by kernel_rfl⟩⟩
instance:FnC Tryz.prog 50:=⟨⟨_,Tryz.func50,by kernel_rfl,by kernel_rfl⟩⟩
instance:FnC Tryz.prog 92:=⟨⟨_,Tryz.func92,by kernel_rfl,by kernel_rfl⟩⟩
instance:FnC Tryz.prog 132:=⟨⟨_,Tryz.func132,by kernel_rfl,by kernel_rfl⟩⟩
instance:FnC Tryz.prog 93:=⟨⟨_,Tryz.func93,by kernel_rfl,by kernel_rfl⟩⟩
instance:FnC Tryz.prog 133:=⟨⟨_,Tryz.func133,by kernel_rfl,by kernel_rfl⟩⟩
instance:FnC Tryz.prog 125:=⟨⟨_,Tryz.func125,by kernel_rfl,by kernel_rfl⟩⟩
instance:FnC Tryz.prog 78:=⟨⟨_,Tryz.func78,by kernel_rfl,by kernel_rfl⟩⟩
instance:FnC Tryz.prog 134:=⟨⟨_,Tryz.func134,by kernel_rfl,by kernel_rfl⟩⟩
instance:FnC Tryz.prog 163:=⟨⟨_,Tryz.func163,by kernel_rfl,by kernel_rfl⟩⟩
instance:FnC Tryz.prog 135:=⟨⟨_,Tryz.func135,by kernel_rfl,by kernel_rfl⟩⟩
instance:FnC Tryz.prog 98:=⟨⟨_,Tryz.func98,by kernel_rfl,by kernel_rfl⟩⟩
theorem FN_138:FnT Tryz.prog 138 Tryz.f138:=⟨Tryz.func138,by kernel_rfl,by kernel_rfl⟩
instance:FnC Tryz.prog 164:=⟨⟨_,Tryz.func164,by kernel_rfl,by kernel_rfl⟩⟩
instance:FnC Tryz.prog 137:=⟨⟨_,Tryz.func137,by kernel_rfl,by kernel_rfl⟩⟩
instance:FnC Tryz.prog 99:=⟨⟨_,Tryz.func99,by kernel_rfl,by kernel_rfl⟩⟩
instance:FnC Tryz.prog 100:=⟨⟨_,Tryz.func100,by kernel_rfl,by kernel_rfl⟩⟩
instance:FnC Tryz.prog 47:=⟨⟨_,Tryz.func47,by kernel_rfl,by kernel_rfl⟩⟩
instance:FnC Tryz.prog 136:=⟨⟨_,Tryz.func136,by kernel_rfl,by kernel_rfl⟩⟩
instance:FnC Tryz.prog 95:=⟨⟨_,Tryz.func95,by kernel_rfl,by kernel_rfl⟩⟩
instance:FnC Tryz.prog 94:=⟨⟨_,Tryz.func94,by kernel_rfl,by kernel_rfl⟩⟩
instance:FnC Tryz.prog 44:=⟨⟨_,Tryz.func44,by kernel_rfl,by kernel_rfl⟩⟩
instance:FnC Tryz.prog 45:=⟨⟨_,Tryz.func45,by kernel_rfl,by kernel_rfl⟩⟩
theorem SLH_28:SlT Tryz.prog 28 54 rH hnil:=mkSl (zv:=hnil.v) (by_:=24) (by kernel_rfl) (by kernel_rfl) (by omega) (fun _ _=>rfl)
theorem SL_54:SlT Tryz.prog 54 60 (rP rB (rS (rI .u32))) (false,[]):=mkSl (zv:=.agg #[.bool false,hnil.v]) (by_:=32) (by kernel_rfl) (by kernel_rfl) (by omega) (fun w X=>⟨[_],_,rfl,rfl,⟨_,rfl,Imm.nil w X (rI .u32)⟩⟩)
theorem O_54:OneT Tryz.prog 54:=mkOne (by kernel_rfl:Tryz.prog.underlying 54=some (.slice 60)) rfl (by kernel_rfl)
theorem SO_92:StructOf Tryz.prog 92 [.int .i64 0,.int .i64 0,.int .u64 0] [(0,1),(1,1),(2,1)]:=soOf (by kernel_rfl) (by kernel_rfl)
theorem SL_89:SlT Tryz.prog 89 92 rTi64i64u64 (0,0,0):=mkSl (zv:=.agg #[.int .i64 0,.int .i64 0,.int .u64 0]) (by_:=24) (by kernel_rfl) (by kernel_rfl) (by omega) (fun _ _=>rfl)
instance:FnC Tryz.prog 46:=⟨⟨_,Tryz.func46,by kernel_rfl,by kernel_rfl⟩⟩
theorem ST_92:StT Tryz.prog 92 3:=stOf (by kernel_rfl)
theorem ZT_92:ZeroT Tryz.prog 92 [.int .i64 0,.int .i64 0,.int .u64 0]:=mkZ (zv:=.agg #[.int .i64 0,.int .i64 0,.int .u64 0]) (by kernel_rfl) rfl
theorem FL_92_2:FldT Tryz.prog 92 2 2:=fldOf (by kernel_rfl)
theorem FL_92_0:FldT Tryz.prog 92 0 0:=fldOf (by kernel_rfl)
theorem FL_92_1:FldT Tryz.prog 92 1 1:=fldOf (by kernel_rfl)
instance:FnC Tryz.prog 15:=⟨⟨_,Tryz.func15,by kernel_rfl,by kernel_rfl⟩⟩
theorem SL_95:SlT Tryz.prog 95 4 rB false:=mkSl (zv:=.bool false) (by_:=1) (by kernel_rfl) (by kernel_rfl) (by omega) (fun _ _=>rfl)
theorem SL_28:SlT Tryz.prog 28 54 (rS (rP rB (rS (rI .u32)))) []:=mkSl (zv:=hnil.v) (by_:=24) (by kernel_rfl) (by kernel_rfl) (by omega) (fun w X=>⟨_,rfl,Imm.nil w X (rP rB (rS (rI .u32)))⟩)
instance:FnC Tryz.prog 101:=⟨⟨_,Tryz.func101,by kernel_rfl,by kernel_rfl⟩⟩
instance:FnC Tryz.prog 82:=⟨⟨_,Tryz.func82,by kernel_rfl,by kernel_rfl⟩⟩
theorem ZT_3:ZeroT Tryz.prog 3 [.int .i64 0]:=mkZ (zv:=.int .i64 0) (by kernel_rfl) rfl
theorem FN_123:FnT Tryz.prog 123 Tryz.f123:=⟨Tryz.func123,by kernel_rfl,by kernel_rfl⟩
instance:FnC Tryz.prog 158:=⟨⟨_,Tryz.func158,by kernel_rfl,by kernel_rfl⟩⟩
instance:FnC Tryz.prog 122:=⟨⟨_,Tryz.func122,by kernel_rfl,by kernel_rfl⟩⟩
instance:FnC Tryz.prog 79:=⟨⟨_,Tryz.func79,by kernel_rfl,by kernel_rfl⟩⟩
instance:FnC Tryz.prog 81:=⟨⟨_,Tryz.func81,by kernel_rfl,by kernel_rfl⟩⟩
theorem ZT_123:ZeroT Tryz.prog 123 [hnil.v,hnil.v,.bool false,hnil.v,.int .i64 0]:=mkZ (zv:=.agg #[hnil.v,hnil.v,.bool false,hnil.v,.int .i64 0]) (by kernel_rfl) rfl
theorem SO_123:StructOf Tryz.prog 123 [hnil.v,hnil.v,.bool false,hnil.v,.int .i64 0] [(0,1),(1,1),(2,2),(4,1)]:=soOf (by kernel_rfl) (by kernel_rfl)
theorem ST_123:StT Tryz.prog 123 5:=stOf (by kernel_rfl)
theorem O_28:OneT Tryz.prog 28:=mkOne (by kernel_rfl:Tryz.prog.underlying 28=some (.slice 54)) rfl (by kernel_rfl)
instance:FnC Tryz.prog 121:=⟨⟨_,Tryz.func121,by kernel_rfl,by kernel_rfl⟩⟩
instance:FnC Tryz.prog 171:=⟨⟨_,Tryz.func171,by kernel_rfl,by kernel_rfl⟩⟩
instance:FnC Tryz.prog 157:=⟨⟨_,Tryz.func157,by kernel_rfl,by kernel_rfl⟩⟩
instance:FnC Tryz.prog 156:=⟨⟨_,Tryz.func156,by kernel_rfl,by kernel_rfl⟩⟩
instance:FnC Tryz.prog 119:=⟨⟨_,Tryz.func119,by kernel_rfl,by kernel_rfl⟩⟩
instance:FnC Tryz.prog 120:=⟨⟨_,Tryz.func120,by kernel_rfl,by kernel_rfl⟩⟩
instance:FnC Tryz.prog 76:=⟨⟨_,Tryz.func76,by kernel_rfl,by kernel_rfl⟩⟩
instance:FnC Tryz.prog 165:=⟨⟨_,Tryz.func165,by kernel_rfl,by kernel_rfl⟩⟩
instance:FnC Tryz.prog 166:=⟨⟨_,Tryz.func166,by kernel_rfl,by kernel_rfl⟩⟩
instance:FnC Tryz.prog 167:=⟨⟨_,Tryz.func167,by kernel_rfl,by kernel_rfl⟩⟩
instance:FnC Tryz.prog 139:=⟨⟨_,Tryz.func139,by kernel_rfl,by kernel_rfl⟩⟩
instance:FnC Tryz.prog 140:=⟨⟨_,Tryz.func140,by kernel_rfl,by kernel_rfl⟩⟩
instance:FnC Tryz.prog 77:=⟨⟨_,Tryz.func77,by kernel_rfl,by kernel_rfl⟩⟩
instance:FnC Tryz.prog 172:=⟨⟨_,Tryz.func172,by kernel_rfl,by kernel_rfl⟩⟩
instance:FnC Tryz.prog 105:=⟨⟨_,Tryz.func105,by kernel_rfl,by kernel_rfl⟩⟩
instance:FnC Tryz.prog 159:=⟨⟨_,Tryz.func159,by kernel_rfl,by kernel_rfl⟩⟩
instance:FnC Tryz.prog 124:=⟨⟨_,Tryz.func124,by kernel_rfl,by kernel_rfl⟩⟩
instance:FnC Tryz.prog 80:=⟨⟨_,Tryz.func80,by kernel_rfl,by kernel_rfl⟩⟩
theorem FV_123_1:FldV Tryz.prog 123 1 1:=fvOf (by kernel_rfl)
instance:FnC Tryz.prog 37:=⟨⟨_,Tryz.func37,by kernel_rfl,by kernel_rfl⟩⟩
instance:FnC Tryz.prog 48:=⟨⟨_,Tryz.func48,by kernel_rfl,by kernel_rfl⟩⟩
instance:FnC Tryz.prog 49:=⟨⟨_,Tryz.func49,by kernel_rfl,by kernel_rfl⟩⟩
instance:FnC Tryz.prog 102:=⟨⟨_,Tryz.func102,by kernel_rfl,by kernel_rfl⟩⟩
instance:FnC Tryz.prog 103:=⟨⟨_,Tryz.func103,by kernel_rfl,by kernel_rfl⟩⟩
instance:FnC Tryz.prog 104:=⟨⟨_,Tryz.func104,by kernel_rfl,by kernel_rfl⟩⟩
instance:FnC Tryz.prog 51:=⟨⟨_,Tryz.func51,by kernel_rfl,by kernel_rfl⟩⟩
theorem FN_49:FnT Tryz.prog 49 Tryz.f49:=⟨Tryz.func49,by kernel_rfl,by kernel_rfl⟩
instance:FnC Tryz.prog 16:=⟨⟨_,Tryz.func16,by kernel_rfl,by kernel_rfl⟩⟩
theorem SO_30:StructOf Tryz.prog 30 [.int .i64 0,.int .i64 0,hnil.v,hnil.v,hnil.v] [(0,1),(1,1),(2,1),(3,1),(4,1)]:=soOf (by kernel_rfl) (by kernel_rfl)
theorem ST_30:StT Tryz.prog 30 5:=stOf (by kernel_rfl)
instance:FnC Tryz.prog 33:=⟨⟨_,Tryz.func33,by kernel_rfl,by kernel_rfl⟩⟩
instance:FnC Tryz.prog 17:=⟨⟨_,Tryz.func17,by kernel_rfl,by kernel_rfl⟩⟩
theorem SLH_49:SlT Tryz.prog 49 23 rH hnil:=mkSl (zv:=hnil.v) (by_:=24) (by kernel_rfl) (by kernel_rfl) (by omega) (fun _ _=>rfl)
instance:FnC Tryz.prog 141:=⟨⟨_,Tryz.func141,by kernel_rfl,by kernel_rfl⟩⟩
instance:FnC Tryz.prog 106:=⟨⟨_,Tryz.func106,by kernel_rfl,by kernel_rfl⟩⟩
instance:FnC Tryz.prog 52:=⟨⟨_,Tryz.func52,by kernel_rfl,by kernel_rfl⟩⟩
instance:FnC Tryz.prog 18:=⟨⟨_,Tryz.func18,by kernel_rfl,by kernel_rfl⟩⟩
theorem SL_49:SlT Tryz.prog 49 23 (rS (rI .i64)) []:=mkSl (zv:=hnil.v) (by_:=24) (by kernel_rfl) (by kernel_rfl) (by omega) (fun w X=>⟨_,rfl,Imm.nil w X (rI .i64)⟩)
instance:FnC Tryz.prog 53:=⟨⟨_,Tryz.func53,by kernel_rfl,by kernel_rfl⟩⟩
instance:FnC Tryz.prog 142:=⟨⟨_,Tryz.func142,by kernel_rfl,by kernel_rfl⟩⟩
theorem FN_144:FnT Tryz.prog 144 Tryz.f144:=⟨Tryz.func144,by kernel_rfl,by kernel_rfl⟩
instance:FnC Tryz.prog 145:=⟨⟨_,Tryz.func145,by kernel_rfl,by kernel_rfl⟩⟩
instance:FnC Tryz.prog 143:=⟨⟨_,Tryz.func143,by kernel_rfl,by kernel_rfl⟩⟩
instance:FnC Tryz.prog 107:=⟨⟨_,Tryz.func107,by kernel_rfl,by kernel_rfl⟩⟩
instance:FnC Tryz.prog 147:=⟨⟨_,Tryz.func147,by kernel_rfl,by kernel_rfl⟩⟩
instance:FnC Tryz.prog 109:=⟨⟨_,Tryz.func109,by kernel_rfl,by kernel_rfl⟩⟩
theorem FN_142:FnT Tryz.prog 142 Tryz.f142:=⟨Tryz.func142,by kernel_rfl,by kernel_rfl⟩
theorem FN_146:FnT Tryz.prog 146 Tryz.f146:=⟨Tryz.func146,by kernel_rfl,by kernel_rfl⟩
theorem FN_145:FnT Tryz.prog 145 Tryz.f145:=⟨Tryz.func145,by kernel_rfl,by kernel_rfl⟩
instance:FnC Tryz.prog 168:=⟨⟨_,Tryz.func168,by kernel_rfl,by kernel_rfl⟩⟩
instance:FnC Tryz.prog 148:=⟨⟨_,Tryz.func148,by kernel_rfl,by kernel_rfl⟩⟩
theorem FN_149:FnT Tryz.prog 149 Tryz.f149:=⟨Tryz.func149,by kernel_rfl,by kernel_rfl⟩
instance:FnC Tryz.prog 108:=⟨⟨_,Tryz.func108,by kernel_rfl,by kernel_rfl⟩⟩
theorem FN_54:FnT Tryz.prog 54 Tryz.f54:=⟨Tryz.func54,by kernel_rfl,by kernel_rfl⟩
instance:FnC Tryz.prog 19:=⟨⟨_,Tryz.func19,by kernel_rfl,by kernel_rfl⟩⟩
instance:FnC Tryz.prog 20:=⟨⟨_,Tryz.func20,by kernel_rfl,by kernel_rfl⟩⟩
theorem FN_5:FnT Tryz.prog 5 Tryz.f5:=⟨Tryz.func5,by kernel_rfl,by kernel_rfl⟩
instance:FnC Tryz.prog 27:=⟨⟨_,Tryz.func27,by kernel_rfl,by kernel_rfl⟩⟩
theorem SLH_67:SlT Tryz.prog 67 24 rH hnil:=mkSl (zv:=hnil.v) (by_:=24) (by kernel_rfl) (by kernel_rfl) (by omega) (fun _ _=>rfl)
instance:FnC Tryz.prog 65:=⟨⟨_,Tryz.func65,by kernel_rfl,by kernel_rfl⟩⟩
instance:FnC Tryz.prog 28:=⟨⟨_,Tryz.func28,by kernel_rfl,by kernel_rfl⟩⟩
instance:FnC Tryz.prog 7:=⟨⟨_,Tryz.func7,by kernel_rfl,by kernel_rfl⟩⟩
theorem SO_72:StructOf Tryz.prog 72 [.bool false,hnil.v,.bool false,hnil.v] [(0,2),(2,2)]:=soOf (by kernel_rfl) (by kernel_rfl)
theorem SL_118:SlT Tryz.prog 118 72 (rP rB (rP (rS (rI .u32)) (rP rB (rS (rI .u32))))) (false,[],false,[]):=mkSl (zv:=.agg #[.bool false,hnil.v,.bool false,hnil.v]) (by_:=64) (by kernel_rfl) (by kernel_rfl) (by omega) (fun w X=>⟨[_],_,rfl,rfl,⟨[_],_,rfl,⟨_,rfl,Imm.nil w X (rI .u32)⟩,⟨[_],_,rfl,rfl,⟨_,rfl,Imm.nil w X (rI .u32)⟩⟩⟩⟩)
theorem SLH_75:SlT Tryz.prog 75 118 rH hnil:=mkSl (zv:=hnil.v) (by_:=24) (by kernel_rfl) (by kernel_rfl) (by omega) (fun _ _=>rfl)
instance:FnC Tryz.prog 31:=⟨⟨_,Tryz.func31,by kernel_rfl,by kernel_rfl⟩⟩
instance:FnC Tryz.prog 32:=⟨⟨_,Tryz.func32,by kernel_rfl,by kernel_rfl⟩⟩
theorem ZT_72:ZeroT Tryz.prog 72 [.bool false,hnil.v,.bool false,hnil.v]:=mkZ (zv:=.agg #[.bool false,hnil.v,.bool false,hnil.v]) (by kernel_rfl) rfl
theorem ST_72:StT Tryz.prog 72 4:=stOf (by kernel_rfl)
theorem O_118:OneT Tryz.prog 118:=mkOne (by kernel_rfl:Tryz.prog.underlying 118=some (.slice 72)) rfl (by kernel_rfl)
theorem FL_72_0:FldT Tryz.prog 72 0 0:=fldOf (by kernel_rfl)
instance:FnC Tryz.prog 70:=⟨⟨_,Tryz.func70,by kernel_rfl,by kernel_rfl⟩⟩
instance:FnC Tryz.prog 117:=⟨⟨_,Tryz.func117,by kernel_rfl,by kernel_rfl⟩⟩
instance:FnC Tryz.prog 173:=⟨⟨_,Tryz.func173,by kernel_rfl,by kernel_rfl⟩⟩
instance:FnC Tryz.prog 169:=⟨⟨_,Tryz.func169,by kernel_rfl,by kernel_rfl⟩⟩
instance:FnC Tryz.prog 155:=⟨⟨_,Tryz.func155,by kernel_rfl,by kernel_rfl⟩⟩
instance:FnC Tryz.prog 115:=⟨⟨_,Tryz.func115,by kernel_rfl,by kernel_rfl⟩⟩
instance:FnC Tryz.prog 116:=⟨⟨_,Tryz.func116,by kernel_rfl,by kernel_rfl⟩⟩
theorem FL_72_1:FldT Tryz.prog 72 1 2:=fldOf (by kernel_rfl)
instance:FnC Tryz.prog 73:=⟨⟨_,Tryz.func73,by kernel_rfl,by kernel_rfl⟩⟩
instance:FnC Tryz.prog 72:=⟨⟨_,Tryz.func72,by kernel_rfl,by kernel_rfl⟩⟩
instance:FnC Tryz.prog 74:=⟨⟨_,Tryz.func74,by kernel_rfl,by kernel_rfl⟩⟩
theorem FN_30:FnT Tryz.prog 30 Tryz.f30:=⟨Tryz.func30,by kernel_rfl,by kernel_rfl⟩
instance:FnC Tryz.prog 8:=⟨⟨_,Tryz.func8,by kernel_rfl,by kernel_rfl⟩⟩
instance:FnC Tryz.prog 34:=⟨⟨_,Tryz.func34,by kernel_rfl,by kernel_rfl⟩⟩
instance:FnC Tryz.prog 118:=⟨⟨_,Tryz.func118,by kernel_rfl,by kernel_rfl⟩⟩
theorem FN_75:FnT Tryz.prog 75 Tryz.f75:=⟨Tryz.func75,by kernel_rfl,by kernel_rfl⟩
instance:FnC Tryz.prog 35:=⟨⟨_,Tryz.func35,by kernel_rfl,by kernel_rfl⟩⟩
instance:FnC Tryz.prog 36:=⟨⟨_,Tryz.func36,by kernel_rfl,by kernel_rfl⟩⟩
instance:FnC Tryz.prog 9:=⟨⟨_,Tryz.func9,by kernel_rfl,by kernel_rfl⟩⟩
instance:FnC Tryz.prog 22:=⟨⟨_,Tryz.func22,by kernel_rfl,by kernel_rfl⟩⟩
instance:FnC Tryz.prog 56:=⟨⟨_,Tryz.func56,by kernel_rfl,by kernel_rfl⟩⟩
instance:FnC Tryz.prog 23:=⟨⟨_,Tryz.func23,by kernel_rfl,by kernel_rfl⟩⟩
instance:FnC Tryz.prog 6:=⟨⟨_,Tryz.func6,by kernel_rfl,by kernel_rfl⟩⟩
instance:ZtC Tryz.prog 26 [.int .i64 0,.int .i64 0,hnil.v,hnil.v,hnil.v]:=⟨ZT_26⟩
instance:SlC Tryz.prog 23 3 (rI .i64) 0:=⟨SL_23⟩
instance:SoC Tryz.prog 26 [.int .i64 0,.int .i64 0,hnil.v,hnil.v,hnil.v] [(0,1),(1,1),(2,1),(3,1),(4,1)]:=⟨SO_26⟩
instance:StC Tryz.prog 26 5:=⟨ST_26⟩
instance:SlC Tryz.prog 22 42 (rI .u64) 0:=⟨SL_22⟩
instance:OnC Tryz.prog 42:=⟨O_42⟩
instance:OnC Tryz.prog 23:=⟨O_23⟩
instance:ZtC Tryz.prog 64 [.bool false,.bool false,hnil.v,.int .i64 0]:=⟨ZT_64⟩
instance:ZtC Tryz.prog 60 [.bool false,hnil.v]:=⟨ZT_60⟩
instance:SlC Tryz.prog 58 106 (rI .u32) 0:=⟨SL_58⟩
instance:OnC Tryz.prog 106:=⟨O_106⟩
instance:SoC Tryz.prog 60 [.bool false,hnil.v] [(0,1),(1,1)]:=⟨SO_60⟩
instance:StC Tryz.prog 60 2:=⟨ST_60⟩
instance:OnC Tryz.prog 4:=⟨O_4⟩
instance:OnC Tryz.prog 58:=⟨O_58⟩
instance:SoC Tryz.prog 64 [.bool false,.bool false,hnil.v,.int .i64 0] [(0,1),(1,2),(3,1)]:=⟨SO_64⟩
instance:StC Tryz.prog 64 4:=⟨ST_64⟩
instance:OnC Tryz.prog 3:=⟨O_3⟩
instance:OnC Tryz.prog 24:=⟨O_24⟩
instance:SlC Tryz.prog 24 44 (rI .u64) 0:=⟨SL_24⟩
instance:OnC Tryz.prog 44:=⟨O_44⟩
instance:ZtC Tryz.prog 30 [.int .i64 0,.int .i64 0,hnil.v,hnil.v,hnil.v]:=⟨ZT_30⟩
instance:SlC Tryz.prog 54 60 (rP rB (rS (rI .u32))) (false,[]):=⟨SL_54⟩
instance:OnC Tryz.prog 54:=⟨O_54⟩
instance:SoC Tryz.prog 92 [.int .i64 0,.int .i64 0,.int .u64 0] [(0,1),(1,1),(2,1)]:=⟨SO_92⟩
instance:SlC Tryz.prog 89 92 rTi64i64u64 (0,0,0):=⟨SL_89⟩
instance:StC Tryz.prog 92 3:=⟨ST_92⟩
instance:ZtC Tryz.prog 92 [.int .i64 0,.int .i64 0,.int .u64 0]:=⟨ZT_92⟩
instance:SlC Tryz.prog 95 4 rB false:=⟨SL_95⟩
instance:SlC Tryz.prog 28 54 (rS (rP rB (rS (rI .u32)))) []:=⟨SL_28⟩
instance:ZtC Tryz.prog 3 [.int .i64 0]:=⟨ZT_3⟩
instance:ZtC Tryz.prog 123 [hnil.v,hnil.v,.bool false,hnil.v,.int .i64 0]:=⟨ZT_123⟩
instance:SoC Tryz.prog 123 [hnil.v,hnil.v,.bool false,hnil.v,.int .i64 0] [(0,1),(1,1),(2,2),(4,1)]:=⟨SO_123⟩
instance:StC Tryz.prog 123 5:=⟨ST_123⟩
instance:OnC Tryz.prog 28:=⟨O_28⟩
instance:SoC Tryz.prog 30 [.int .i64 0,.int .i64 0,hnil.v,hnil.v,hnil.v] [(0,1),(1,1),(2,1),(3,1),(4,1)]:=⟨SO_30⟩
instance:StC Tryz.prog 30 5:=⟨ST_30⟩
instance:SlC Tryz.prog 49 23 (rS (rI .i64)) []:=⟨SL_49⟩
instance:SoC Tryz.prog 72 [.bool false,hnil.v,.bool false,hnil.v] [(0,2),(2,2)]:=⟨SO_72⟩
instance:SlC Tryz.prog 118 72 (rP rB (rP (rS (rI .u32)) (rP rB (rS (rI .u32))))) (false,[],false,[]):=⟨SL_118⟩
instance:ZtC Tryz.prog 72 [.bool false,hnil.v,.bool false,hnil.v]:=⟨ZT_72⟩
instance:StC Tryz.prog 72 4:=⟨ST_72⟩
instance:OnC Tryz.prog 118:=⟨O_118⟩
end Go.Proofs.YtcoaljcfifecgaeGreatDoor
