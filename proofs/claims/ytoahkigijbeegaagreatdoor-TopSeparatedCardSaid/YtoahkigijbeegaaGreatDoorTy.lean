/- Closed facts on the types and the functions of this program. -/
import Derived.Test.YtoahkigijbeegaaGreatDoorChecked
import Derived.Test.YtoahkigijbeegaaGreatDoorTm
import Derived.Test.YtoahkigijbeegaaGreatDoorSyB
import Derived.Test.YtoahkigijbeegaaGreatDoorSyN
namespace Go.Proofs.YtoahkigijbeegaaGreatDoor
open Go Sx
set_option maxRecDepth 100000
theorem V0:Tryz.prog.follows .mixedOrders=true:=H0
instance:FoM Tryz.prog:=⟨V0⟩
instance:KT Tryz.prog:=⟨([(2,.i64),(3,.i64),(5,.u8),(6,.u8),(12,.u64),(21,.i32),(33,.i64),(52,.u64),(55,.u64),(56,.u64),(108,.u32),(261,.i64),(271,.u64),(286,.u8),(287,.u8),(290,.i32),(291,.i32)],[(27,0,0),(27,1,1),(27,2,2),(27,3,3),(27,4,4),(32,0,0),(37,0,0),(37,1,1),(37,2,2),(43,0,0),(43,1,1),(43,2,2),(43,3,3),(58,0,0),(58,1,1),(58,2,2),(63,0,0),(63,1,1),(65,0,0),(65,1,1),(65,2,3),(90,0,0),(90,1,1),(90,2,2),(121,0,0),(121,1,1),(121,2,2),(132,0,0),(132,1,1),(132,2,2),(132,3,3),(169,0,0),(169,1,1),(175,0,0),(175,1,1),(183,0,0),(183,1,1),(183,2,3),(183,3,4),(189,0,0),(189,1,1),(240,0,0),(240,1,1),(240,2,2),(240,3,3)]),H0,H0⟩
instance:FnC Tryz.prog 4:=⟨⟨_,Tryz.func4,H0,H0⟩⟩
theorem Ef:ZeroT Tryz.prog 27 [.int .i64 0,.int .i64 0,hnil.v,hnil.v,hnil.v]:=mkZ (zv:=.agg #[.int .i64 0,.int .i64 0,hnil.v,hnil.v,hnil.v]) H0 rfl
theorem N0:SlT Tryz.prog 24 3 (rI .i64) 0:=I6 (zv:=.int .i64 0) (by_:=8) H0 H0 n0 (fun _ _=>rfl)
theorem Ns:StructOf Tryz.prog 27 [.int .i64 0,.int .i64 0,hnil.v,hnil.v,hnil.v] [(0,1),(1,1),(2,1),(3,1),(4,1)]:=n6 H0 H0
theorem E5:StT Tryz.prog 27 5:=U7 H0
theorem YC:SlT Tryz.prog 22 55 (rI .u64) 0:=I6 (zv:=.int .u64 0) (by_:=8) H0 H0 n0 (fun _ _=>rfl)
theorem O_55:OneT Tryz.prog 55:=s6 (by kernel_rfl:Tryz.prog.underlying 55=some (.int .u64)) rfl H0
instance:FnC Tryz.prog 46:=⟨⟨_,Tryz.func46,H0,H0⟩⟩
theorem P0:OneT Tryz.prog 24:=s6 (by kernel_rfl:Tryz.prog.underlying 24=some (.slice 3)) rfl H0
instance:FnC Tryz.prog 52:=⟨⟨_,Tryz.func52,H0,H0⟩⟩
theorem Fc:ZeroT Tryz.prog 65 [.bool false,.bool false,hnil.v,.int .i64 0]:=mkZ (zv:=.agg #[.bool false,.bool false,hnil.v,.int .i64 0]) H0 rfl
theorem L4:ZeroT Tryz.prog 63 [.bool false,hnil.v]:=mkZ (zv:=.agg #[.bool false,hnil.v]) H0 rfl
theorem Y2:SlT Tryz.prog 61 108 (rI .u32) 0:=I6 (zv:=.int .u32 0) (by_:=4) H0 H0 n0 (fun _ _=>rfl)
theorem N4:OneT Tryz.prog 108:=s6 (by kernel_rfl:Tryz.prog.underlying 108=some (.int .u32)) rfl H0
instance:FnC Tryz.prog 108:=⟨⟨_,Tryz.func108,H0,H0⟩⟩
theorem QC:StructOf Tryz.prog 63 [.bool false,hnil.v] [(0,1),(1,1)]:=n6 H0 H0
theorem Q1:StT Tryz.prog 63 2:=U7 H0
instance:FnC Tryz.prog 103:=⟨⟨_,Tryz.func103,H0,H0⟩⟩
instance:FnC Tryz.prog 49:=⟨⟨_,Tryz.func49,H0,H0⟩⟩
theorem O_4:OneT Tryz.prog 4:=s6 (by kernel_rfl:Tryz.prog.underlying 4=some (.bool)) rfl H0
theorem Zi:OneT Tryz.prog 61:=s6 (by kernel_rfl:Tryz.prog.underlying 61=some (.slice 108)) rfl H0
instance:FnC Tryz.prog 99:=⟨⟨_,Tryz.func99,H0,H0⟩⟩
theorem PC:StructOf Tryz.prog 65 [.bool false,.bool false,hnil.v,.int .i64 0] [(0,1),(1,2),(3,1)]:=n6 H0 H0
theorem J3:StT Tryz.prog 65 4:=U7 H0
instance:FnC Tryz.prog 53:=⟨⟨_,Tryz.func53,H0,H0⟩⟩
instance:FnC Tryz.prog 156:=⟨⟨_,Tryz.func156,H0,H0⟩⟩
instance:FnC Tryz.prog 100:=⟨⟨_,Tryz.func100,H0,H0⟩⟩
instance:FnC Tryz.prog 51:=⟨⟨_,Tryz.func51,H0,H0⟩⟩
instance:FnC Tryz.prog 112:=⟨⟨_,Tryz.func112,H0,H0⟩⟩
instance:FnC Tryz.prog 113:=⟨⟨_,Tryz.func113,H0,H0⟩⟩
instance:FnC Tryz.prog 109:=⟨⟨_,Tryz.func109,H0,H0⟩⟩
instance:FnC Tryz.prog 110:=⟨⟨_,Tryz.func110,H0,H0⟩⟩
instance:FnC Tryz.prog 111:=⟨⟨_,Tryz.func111,H0,H0⟩⟩
instance:FnC Tryz.prog 160:=⟨⟨_,Tryz.func160,H0,H0⟩⟩
instance:FnC Tryz.prog 57:=⟨⟨_,Tryz.func57,H0,H0⟩⟩
instance:FnC Tryz.prog 114:=⟨⟨_,Tryz.func114,H0,H0⟩⟩
instance:FnC Tryz.prog 58:=⟨⟨_,Tryz.func58,H0,H0⟩⟩
instance:FnC Tryz.prog 101:=⟨⟨_,Tryz.func101,H0,H0⟩⟩
instance:FnC Tryz.prog 157:=⟨⟨_,Tryz.func157,H0,H0⟩⟩
instance:FnC Tryz.prog 102:=⟨⟨_,Tryz.func102,H0,H0⟩⟩
instance:FnC Tryz.prog 48:=⟨⟨_,Tryz.func48,H0,H0⟩⟩
instance:FnC Tryz.prog 18:=⟨⟨_,Tryz.func18,H0,H0⟩⟩
theorem O_3:OneT Tryz.prog 3:=s6 (by kernel_rfl:Tryz.prog.underlying 3=some (.int .i64)) rfl H0
instance:FnC Tryz.prog 50:=⟨⟨_,Tryz.func50,H0,H0⟩⟩
instance:FnC Tryz.prog 55:=⟨⟨_,Tryz.func55,H0,H0⟩⟩
instance:FnC Tryz.prog 107:=⟨⟨_,Tryz.func107,H0,H0⟩⟩
instance:FnC Tryz.prog 104:=⟨⟨_,Tryz.func104,H0,H0⟩⟩
instance:FnC Tryz.prog 158:=⟨⟨_,Tryz.func158,H0,H0⟩⟩
instance:FnC Tryz.prog 159:=⟨⟨_,Tryz.func159,H0,H0⟩⟩
instance:FnC Tryz.prog 105:=⟨⟨_,Tryz.func105,H0,H0⟩⟩
instance:FnC Tryz.prog 106:=⟨⟨_,Tryz.func106,H0,H0⟩⟩
instance:FnC Tryz.prog 56:=⟨⟨_,Tryz.func56,H0,H0⟩⟩
instance:FnC Tryz.prog 22:=⟨⟨_,Tryz.func22,H0,H0⟩⟩
instance:FnC Tryz.prog 155:=⟨⟨_,Tryz.func155,H0,H0⟩⟩
instance:FnC Tryz.prog 98:=⟨⟨_,Tryz.func98,H0,H0⟩⟩
theorem T3:OneT Tryz.prog 25:=s6 (by kernel_rfl:Tryz.prog.underlying 25=some (.slice 56)) rfl H0
instance:FnC Tryz.prog 47:=⟨⟨_,Tryz.func47,H0,H0⟩⟩
theorem E2:SlT Tryz.prog 25 56 (rI .u64) 0:=I6 (zv:=.int .u64 0) (by_:=8) H0 H0 n0 (fun _ _=>rfl)
instance:FnC Tryz.prog 17:=⟨⟨_,Tryz.func17,H0,H0⟩⟩
theorem N7:SlT Tryz.prog 67 65 (rP rB (rP rB (rP (rS (rI .u32)) (rI .i64)))) (false,false,[],0):=I6 (zv:=.agg #[.bool false,.bool false,hnil.v,.int .i64 0]) (by_:=48) H0 H0 n0 (fun w X=>⟨[_],_,rfl,rfl,⟨[_],_,rfl,rfl,⟨[_],_,rfl,⟨_,rfl,Imm.nil w X (rI .u32)⟩,rfl⟩⟩⟩)
theorem B5:OneT Tryz.prog 56:=s6 (by kernel_rfl:Tryz.prog.underlying 56=some (.int .u64)) rfl H0
instance:FnC Tryz.prog 97:=⟨⟨_,Tryz.func97,H0,H0⟩⟩
instance:FnC Tryz.prog 45:=⟨⟨_,Tryz.func45,H0,H0⟩⟩
instance:FnC Tryz.prog 21:=⟨⟨_,Tryz.func21,H0,H0⟩⟩
instance:FnC Tryz.prog 54:=⟨⟨_,Tryz.func54,H0,H0⟩⟩
instance:FnC Tryz.prog 20:=⟨⟨_,Tryz.func20,H0,H0⟩⟩
instance:FnC Tryz.prog 19:=⟨⟨_,Tryz.func19,H0,H0⟩⟩
instance:FnC Tryz.prog 23:=⟨⟨_,Tryz.func23,H0,H0⟩⟩
instance:FnC Tryz.prog 24:=⟨⟨_,Tryz.func24,H0,H0⟩⟩
instance:FnC Tryz.prog 6:=⟨⟨_,Tryz.func6,H0,H0⟩⟩
theorem Vi:StructOf Tryz.prog 58 [.int .i64 0,.int .i64 0,.int .u64 0] [(0,1),(1,1),(2,1)]:=n6 H0 H0
theorem H5:SlT Tryz.prog 53 58 rTi64i64u64 (0,0,0):=I6 (zv:=.agg #[.int .i64 0,.int .i64 0,.int .u64 0]) (by_:=24) H0 H0 n0 (fun _ _=>rfl)
instance:FnC Tryz.prog 15:=⟨⟨_,Tryz.func15,H0,H0⟩⟩
theorem j7:StT Tryz.prog 58 3:=U7 H0
theorem NC:ZeroT Tryz.prog 58 [.int .i64 0,.int .i64 0,.int .u64 0]:=mkZ (zv:=.agg #[.int .i64 0,.int .i64 0,.int .u64 0]) H0 rfl
theorem DD:FldT Tryz.prog 58 0 0:=Ve H0
theorem CD:FldT Tryz.prog 58 1 1:=Ve H0
theorem BD:FldT Tryz.prog 58 2 2:=Ve H0
instance:FnC Tryz.prog 16:=⟨⟨_,Tryz.func16,H0,H0⟩⟩
instance:FnC Tryz.prog 5:=⟨⟨_,Tryz.func5,H0,H0⟩⟩
theorem Df:ZeroT Tryz.prog 32 [hnil.v]:=mkZ (zv:=.agg #[hnil.v]) H0 rfl
instance:FnC Tryz.prog 59:=⟨⟨_,Tryz.func59,H0,H0⟩⟩
instance:FnC Tryz.prog 195:=⟨⟨_,Tryz.func195,H0,H0⟩⟩
instance:FnC Tryz.prog 161:=⟨⟨_,Tryz.func161,H0,H0⟩⟩
instance:FnC Tryz.prog 115:=⟨⟨_,Tryz.func115,H0,H0⟩⟩
instance:FnC Tryz.prog 60:=⟨⟨_,Tryz.func60,H0,H0⟩⟩
instance:FnC Tryz.prog 90:=⟨⟨_,Tryz.func90,H0,H0⟩⟩
instance:FnC Tryz.prog 42:=⟨⟨_,Tryz.func42,H0,H0⟩⟩
theorem rD:FnT Tryz.prog 62 Tryz.f62:=⟨Tryz.func62,H0,H0⟩
instance:FnC Tryz.prog 116:=⟨⟨_,Tryz.func116,H0,H0⟩⟩
instance:FnC Tryz.prog 61:=⟨⟨_,Tryz.func61,H0,H0⟩⟩
instance:FnC Tryz.prog 25:=⟨⟨_,Tryz.func25,H0,H0⟩⟩
theorem na:SlT Tryz.prog 76 95 rH hnil:=I6 (zv:=hnil.v) (by_:=24) H0 H0 n0 (fun _ _=>rfl)
theorem K3:SlT Tryz.prog 95 4 rB false:=I6 (zv:=.bool false) (by_:=1) H0 H0 n0 (fun _ _=>rfl)
theorem qa:OneT Tryz.prog 95:=s6 (by kernel_rfl:Tryz.prog.underlying 95=some (.slice 4)) rfl H0
instance:FnC Tryz.prog 26:=⟨⟨_,Tryz.func26,H0,H0⟩⟩
instance:FnC Tryz.prog 63:=⟨⟨_,Tryz.func63,H0,H0⟩⟩
instance:FnC Tryz.prog 27:=⟨⟨_,Tryz.func27,H0,H0⟩⟩
instance:FnC Tryz.prog 28:=⟨⟨_,Tryz.func28,H0,H0⟩⟩
theorem XC:SlT Tryz.prog 76 95 (rS rB) []:=I6 (zv:=hnil.v) (by_:=24) H0 H0 n0 (fun w X=>⟨_,rfl,Imm.nil w X rB⟩)
theorem Q4:SlT Tryz.prog 30 24 (rS (rI .i64)) []:=I6 (zv:=hnil.v) (by_:=24) H0 H0 n0 (fun w X=>⟨_,rfl,Imm.nil w X (rI .i64)⟩)
theorem SC:StructOf Tryz.prog 32 [hnil.v] [(0,1)]:=n6 H0 H0
theorem Z3:StT Tryz.prog 32 1:=U7 H0
theorem M4:OneT Tryz.prog 30:=s6 (by kernel_rfl:Tryz.prog.underlying 30=some (.slice 24)) rfl H0
instance:FnC Tryz.prog 64:=⟨⟨_,Tryz.func64,H0,H0⟩⟩
instance:FnC Tryz.prog 29:=⟨⟨_,Tryz.func29,H0,H0⟩⟩
instance:FnC Tryz.prog 7:=⟨⟨_,Tryz.func7,H0,H0⟩⟩
theorem Cf:ZeroT Tryz.prog 37 [hnil.v,hnil.v,hnil.v]:=mkZ (zv:=.agg #[hnil.v,hnil.v,hnil.v]) H0 rfl
instance:FnC Tryz.prog 65:=⟨⟨_,Tryz.func65,H0,H0⟩⟩
instance:FnC Tryz.prog 162:=⟨⟨_,Tryz.func162,H0,H0⟩⟩
instance:FnC Tryz.prog 117:=⟨⟨_,Tryz.func117,H0,H0⟩⟩
instance:FnC Tryz.prog 66:=⟨⟨_,Tryz.func66,H0,H0⟩⟩
instance:FnC Tryz.prog 30:=⟨⟨_,Tryz.func30,H0,H0⟩⟩
theorem Gc:ZeroT Tryz.prog 121 [hnil.v,hnil.v,hnil.v]:=mkZ (zv:=.agg #[hnil.v,hnil.v,hnil.v]) H0 rfl
instance:FnC Tryz.prog 201:=⟨⟨_,Tryz.func201,H0,H0⟩⟩
instance:FnC Tryz.prog 169:=⟨⟨_,Tryz.func169,H0,H0⟩⟩
instance:FnC Tryz.prog 122:=⟨⟨_,Tryz.func122,H0,H0⟩⟩
theorem Hf:StructOf Tryz.prog 121 [hnil.v,hnil.v,hnil.v] [(0,1),(1,1),(2,1)]:=n6 H0 H0
theorem Eb:StT Tryz.prog 121 3:=U7 H0
instance:FnC Tryz.prog 68:=⟨⟨_,Tryz.func68,H0,H0⟩⟩
instance:FnC Tryz.prog 163:=⟨⟨_,Tryz.func163,H0,H0⟩⟩
instance:FnC Tryz.prog 197:=⟨⟨_,Tryz.func197,H0,H0⟩⟩
instance:FnC Tryz.prog 196:=⟨⟨_,Tryz.func196,H0,H0⟩⟩
instance:FnC Tryz.prog 198:=⟨⟨_,Tryz.func198,H0,H0⟩⟩
instance:FnC Tryz.prog 165:=⟨⟨_,Tryz.func165,H0,H0⟩⟩
instance:FnC Tryz.prog 164:=⟨⟨_,Tryz.func164,H0,H0⟩⟩
instance:FnC Tryz.prog 129:=⟨⟨_,Tryz.func129,H0,H0⟩⟩
instance:FnC Tryz.prog 167:=⟨⟨_,Tryz.func167,H0,H0⟩⟩
instance:FnC Tryz.prog 166:=⟨⟨_,Tryz.func166,H0,H0⟩⟩
instance:FnC Tryz.prog 118:=⟨⟨_,Tryz.func118,H0,H0⟩⟩
theorem OC:ZeroT Tryz.prog 205 [.int .i64 0,.int .i64 0]:=mkZ (zv:=.agg #[.int .i64 0,.int .i64 0]) H0 rfl
theorem W8:ArrT Tryz.prog 205 3 2 (rI .i64):=zz H0 H0
instance:FnC Tryz.prog 121:=⟨⟨_,Tryz.func121,H0,H0⟩⟩
instance:FnC Tryz.prog 67:=⟨⟨_,Tryz.func67,H0,H0⟩⟩
theorem xD:FnT Tryz.prog 170 Tryz.f170:=⟨Tryz.func170,H0,H0⟩
instance:FnC Tryz.prog 174:=⟨⟨_,Tryz.func174,H0,H0⟩⟩
instance:FnC Tryz.prog 127:=⟨⟨_,Tryz.func127,H0,H0⟩⟩
instance:FnC Tryz.prog 123:=⟨⟨_,Tryz.func123,H0,H0⟩⟩
theorem Ks:ZeroT Tryz.prog 169 [hnil.v,hnil.v]:=mkZ (zv:=.agg #[hnil.v,hnil.v]) H0 rfl
instance:FnC Tryz.prog 221:=⟨⟨_,Tryz.func221,H0,H0⟩⟩
instance:FnC Tryz.prog 222:=⟨⟨_,Tryz.func222,H0,H0⟩⟩
theorem TC:StructOf Tryz.prog 240 [hnil.v,hnil.v,hnil.v,hnil.v] [(0,1),(1,1),(2,1),(3,1)]:=n6 H0 H0
instance:FnC Tryz.prog 223:=⟨⟨_,Tryz.func223,H0,H0⟩⟩
theorem wD:FnT Tryz.prog 202 Tryz.f202:=⟨Tryz.func202,H0,H0⟩
instance:FnC Tryz.prog 171:=⟨⟨_,Tryz.func171,H0,H0⟩⟩
instance:FnC Tryz.prog 172:=⟨⟨_,Tryz.func172,H0,H0⟩⟩
theorem Wi:StructOf Tryz.prog 169 [hnil.v,hnil.v] [(0,1),(1,1)]:=n6 H0 H0
theorem Hc:StT Tryz.prog 169 2:=U7 H0
instance:FnC Tryz.prog 124:=⟨⟨_,Tryz.func124,H0,H0⟩⟩
instance:FnC Tryz.prog 69:=⟨⟨_,Tryz.func69,H0,H0⟩⟩
theorem Db:StT Tryz.prog 37 3:=U7 H0
instance:FnC Tryz.prog 31:=⟨⟨_,Tryz.func31,H0,H0⟩⟩
theorem RC:StructOf Tryz.prog 37 [hnil.v,hnil.v,hnil.v] [(0,1),(1,1),(2,1)]:=n6 H0 H0
instance:FnC Tryz.prog 8:=⟨⟨_,Tryz.func8,H0,H0⟩⟩
instance:FnC Tryz.prog 173:=⟨⟨_,Tryz.func173,H0,H0⟩⟩
theorem VC:StructOf Tryz.prog 175 [hnil.v,hnil.v] [(0,1),(1,1)]:=n6 H0 H0
theorem AD:FnT Tryz.prog 125 Tryz.f125:=⟨Tryz.func125,H0,H0⟩
theorem Xi:OneT Tryz.prog 76:=s6 (by kernel_rfl:Tryz.prog.underlying 76=some (.slice 95)) rfl H0
theorem Rt:FnT Tryz.prog 64 Tryz.f64:=⟨Tryz.func64,H0,H0⟩
instance:FnC Tryz.prog 126:=⟨⟨_,Tryz.func126,H0,H0⟩⟩
instance:FnC Tryz.prog 70:=⟨⟨_,Tryz.func70,H0,H0⟩⟩
theorem zD:FnT Tryz.prog 128 Tryz.f128:=⟨Tryz.func128,H0,H0⟩
instance:FnC Tryz.prog 177:=⟨⟨_,Tryz.func177,H0,H0⟩⟩
instance:FnC Tryz.prog 224:=⟨⟨_,Tryz.func224,H0,H0⟩⟩
instance:FnC Tryz.prog 203:=⟨⟨_,Tryz.func203,H0,H0⟩⟩
instance:FnC Tryz.prog 176:=⟨⟨_,Tryz.func176,H0,H0⟩⟩
instance:FnC Tryz.prog 175:=⟨⟨_,Tryz.func175,H0,H0⟩⟩
instance:FnC Tryz.prog 130:=⟨⟨_,Tryz.func130,H0,H0⟩⟩
instance:FnC Tryz.prog 81:=⟨⟨_,Tryz.func81,H0,H0⟩⟩
instance:FnC Tryz.prog 71:=⟨⟨_,Tryz.func71,H0,H0⟩⟩
instance:FnC Tryz.prog 32:=⟨⟨_,Tryz.func32,H0,H0⟩⟩
instance:FnC Tryz.prog 9:=⟨⟨_,Tryz.func9,H0,H0⟩⟩
theorem Bf:ZeroT Tryz.prog 43 [hnil.v,hnil.v,hnil.v,hnil.v]:=mkZ (zv:=.agg #[hnil.v,hnil.v,hnil.v,hnil.v]) H0 rfl
instance:FnC Tryz.prog 72:=⟨⟨_,Tryz.func72,H0,H0⟩⟩
instance:FnC Tryz.prog 205:=⟨⟨_,Tryz.func205,H0,H0⟩⟩
instance:FnC Tryz.prog 209:=⟨⟨_,Tryz.func209,H0,H0⟩⟩
instance:FnC Tryz.prog 208:=⟨⟨_,Tryz.func208,H0,H0⟩⟩
theorem Xf:FnT Tryz.prog 207 Tryz.f207:=⟨Tryz.func207,H0,H0⟩
instance:FnC Tryz.prog 242:=⟨⟨_,Tryz.func242,H0,H0⟩⟩
instance:FnC Tryz.prog 243:=⟨⟨_,Tryz.func243,H0,H0⟩⟩
instance:FnC Tryz.prog 225:=⟨⟨_,Tryz.func225,H0,H0⟩⟩
instance:FnC Tryz.prog 206:=⟨⟨_,Tryz.func206,H0,H0⟩⟩
instance:FnC Tryz.prog 178:=⟨⟨_,Tryz.func178,H0,H0⟩⟩
instance:FnC Tryz.prog 131:=⟨⟨_,Tryz.func131,H0,H0⟩⟩
instance:FnC Tryz.prog 73:=⟨⟨_,Tryz.func73,H0,H0⟩⟩
theorem yD:FnT Tryz.prog 140 Tryz.f140:=⟨Tryz.func140,H0,H0⟩
instance:FnC Tryz.prog 80:=⟨⟨_,Tryz.func80,H0,H0⟩⟩
instance:FnC Tryz.prog 37:=⟨⟨_,Tryz.func37,H0,H0⟩⟩
theorem I5:SlT Tryz.prog 88 127 rM none:=I6 (zv:=.map none) (by_:=8) H0 H0 n0 (fun _ _=>rfl)
theorem Ms:StructOf Tryz.prog 90 [.int .i64 0,hnil.v,hnil.v] [(0,1),(1,1),(2,1)]:=n6 H0 H0
theorem U3:OneT Tryz.prog 88:=s6 (by kernel_rfl:Tryz.prog.underlying 88=some (.slice 127)) rfl H0
theorem k7:OneT Tryz.prog 127:=s6 (by kernel_rfl:Tryz.prog.underlying 127=some (.map 3 65)) rfl H0
instance:FnC Tryz.prog 152:=⟨⟨_,Tryz.func152,H0,H0⟩⟩
instance:FnC Tryz.prog 153:=⟨⟨_,Tryz.func153,H0,H0⟩⟩
instance:FnC Tryz.prog 93:=⟨⟨_,Tryz.func93,H0,H0⟩⟩
instance:FnC Tryz.prog 94:=⟨⟨_,Tryz.func94,H0,H0⟩⟩
instance:FnC Tryz.prog 154:=⟨⟨_,Tryz.func154,H0,H0⟩⟩
instance:FnC Tryz.prog 95:=⟨⟨_,Tryz.func95,H0,H0⟩⟩
instance:FnC Tryz.prog 147:=⟨⟨_,Tryz.func147,H0,H0⟩⟩
instance:FnC Tryz.prog 148:=⟨⟨_,Tryz.func148,H0,H0⟩⟩
instance:FnC Tryz.prog 92:=⟨⟨_,Tryz.func92,H0,H0⟩⟩
instance:FnC Tryz.prog 149:=⟨⟨_,Tryz.func149,H0,H0⟩⟩
instance:FnC Tryz.prog 193:=⟨⟨_,Tryz.func193,H0,H0⟩⟩
instance:FnC Tryz.prog 150:=⟨⟨_,Tryz.func150,H0,H0⟩⟩
instance:FnC Tryz.prog 217:=⟨⟨_,Tryz.func217,H0,H0⟩⟩
theorem vD:FnT Tryz.prog 232 Tryz.f232:=⟨Tryz.func232,H0,H0⟩
instance:FnC Tryz.prog 245:=⟨⟨_,Tryz.func245,H0,H0⟩⟩
instance:FnC Tryz.prog 231:=⟨⟨_,Tryz.func231,H0,H0⟩⟩
instance:FnC Tryz.prog 218:=⟨⟨_,Tryz.func218,H0,H0⟩⟩
instance:FnC Tryz.prog 211:=⟨⟨_,Tryz.func211,H0,H0⟩⟩
instance:FnC Tryz.prog 194:=⟨⟨_,Tryz.func194,H0,H0⟩⟩
instance:FnC Tryz.prog 151:=⟨⟨_,Tryz.func151,H0,H0⟩⟩
instance:FnC Tryz.prog 91:=⟨⟨_,Tryz.func91,H0,H0⟩⟩
instance:FnC Tryz.prog 96:=⟨⟨_,Tryz.func96,H0,H0⟩⟩
instance:FnC Tryz.prog 44:=⟨⟨_,Tryz.func44,H0,H0⟩⟩
theorem I8:MapT Tryz.prog 127 .i64 (.agg #[.bool false,.bool false,hnil.v,.int .i64 0]):=yz (kt:=3) (et:=65) H0 H0 H0
theorem uD:FnT Tryz.prog 33 Tryz.f33:=⟨Tryz.func33,H0,H0⟩
theorem UC:StructOf Tryz.prog 189 [hnil.v,hnil.v] [(0,1),(1,1)]:=n6 H0 H0
instance:FnC Tryz.prog 141:=⟨⟨_,Tryz.func141,H0,H0⟩⟩
instance:FnC Tryz.prog 142:=⟨⟨_,Tryz.func142,H0,H0⟩⟩
instance:FnC Tryz.prog 82:=⟨⟨_,Tryz.func82,H0,H0⟩⟩
theorem O7:SlT Tryz.prog 30 24 rH hnil:=I6 (zv:=hnil.v) (by_:=24) H0 H0 n0 (fun _ _=>rfl)
instance:FnC Tryz.prog 83:=⟨⟨_,Tryz.func83,H0,H0⟩⟩
instance:FnC Tryz.prog 74:=⟨⟨_,Tryz.func74,H0,H0⟩⟩
theorem J5:SlT Tryz.prog 130 25 rH hnil:=I6 (zv:=hnil.v) (by_:=24) H0 H0 n0 (fun _ _=>rfl)
theorem WC:StructOf Tryz.prog 132 [hnil.v,hnil.v,hnil.v,hnil.v] [(0,1),(1,1),(2,1),(3,1)]:=n6 H0 H0
theorem tD:FnT Tryz.prog 34 Tryz.f34:=⟨Tryz.func34,H0,H0⟩
instance:FnC Tryz.prog 132:=⟨⟨_,Tryz.func132,H0,H0⟩⟩
instance:FnC Tryz.prog 179:=⟨⟨_,Tryz.func179,H0,H0⟩⟩
instance:FnC Tryz.prog 210:=⟨⟨_,Tryz.func210,H0,H0⟩⟩
instance:FnC Tryz.prog 180:=⟨⟨_,Tryz.func180,H0,H0⟩⟩
instance:FnC Tryz.prog 134:=⟨⟨_,Tryz.func134,H0,H0⟩⟩
instance:FnC Tryz.prog 133:=⟨⟨_,Tryz.func133,H0,H0⟩⟩
instance:FnC Tryz.prog 244:=⟨⟨_,Tryz.func244,H0,H0⟩⟩
instance:FnC Tryz.prog 226:=⟨⟨_,Tryz.func226,H0,H0⟩⟩
instance:FnC Tryz.prog 212:=⟨⟨_,Tryz.func212,H0,H0⟩⟩
instance:FnC Tryz.prog 213:=⟨⟨_,Tryz.func213,H0,H0⟩⟩
instance:FnC Tryz.prog 182:=⟨⟨_,Tryz.func182,H0,H0⟩⟩
instance:FnC Tryz.prog 181:=⟨⟨_,Tryz.func181,H0,H0⟩⟩
instance:FnC Tryz.prog 135:=⟨⟨_,Tryz.func135,H0,H0⟩⟩
instance:FnC Tryz.prog 75:=⟨⟨_,Tryz.func75,H0,H0⟩⟩
instance:FnC Tryz.prog 43:=⟨⟨_,Tryz.func43,H0,H0⟩⟩
instance:FnC Tryz.prog 136:=⟨⟨_,Tryz.func136,H0,H0⟩⟩
theorem Js:ZeroT Tryz.prog 183 [.bool false,.bool false,hnil.v,.int .i64 0,.bool false]:=mkZ (zv:=.agg #[.bool false,.bool false,hnil.v,.int .i64 0,.bool false]) H0 rfl
instance:FnC Tryz.prog 228:=⟨⟨_,Tryz.func228,H0,H0⟩⟩
instance:FnC Tryz.prog 229:=⟨⟨_,Tryz.func229,H0,H0⟩⟩
instance:FnC Tryz.prog 230:=⟨⟨_,Tryz.func230,H0,H0⟩⟩
instance:FnC Tryz.prog 216:=⟨⟨_,Tryz.func216,H0,H0⟩⟩
instance:FnC Tryz.prog 215:=⟨⟨_,Tryz.func215,H0,H0⟩⟩
instance:FnC Tryz.prog 189:=⟨⟨_,Tryz.func189,H0,H0⟩⟩
instance:FnC Tryz.prog 190:=⟨⟨_,Tryz.func190,H0,H0⟩⟩
theorem Ps:StructOf Tryz.prog 183 [.bool false,.bool false,hnil.v,.int .i64 0,.bool false] [(0,1),(1,2),(3,1),(4,1)]:=n6 H0 H0
theorem Ui:StT Tryz.prog 183 5:=U7 H0
instance:FnC Tryz.prog 138:=⟨⟨_,Tryz.func138,H0,H0⟩⟩
instance:FnC Tryz.prog 183:=⟨⟨_,Tryz.func183,H0,H0⟩⟩
instance:FnC Tryz.prog 227:=⟨⟨_,Tryz.func227,H0,H0⟩⟩
instance:FnC Tryz.prog 214:=⟨⟨_,Tryz.func214,H0,H0⟩⟩
instance:FnC Tryz.prog 186:=⟨⟨_,Tryz.func186,H0,H0⟩⟩
instance:FnC Tryz.prog 185:=⟨⟨_,Tryz.func185,H0,H0⟩⟩
instance:FnC Tryz.prog 184:=⟨⟨_,Tryz.func184,H0,H0⟩⟩
instance:FnC Tryz.prog 187:=⟨⟨_,Tryz.func187,H0,H0⟩⟩
instance:FnC Tryz.prog 188:=⟨⟨_,Tryz.func188,H0,H0⟩⟩
instance:FnC Tryz.prog 137:=⟨⟨_,Tryz.func137,H0,H0⟩⟩
instance:FnC Tryz.prog 76:=⟨⟨_,Tryz.func76,H0,H0⟩⟩
instance:FnC Tryz.prog 77:=⟨⟨_,Tryz.func77,H0,H0⟩⟩
theorem C4:OneT Tryz.prog 130:=s6 (by kernel_rfl:Tryz.prog.underlying 130=some (.slice 25)) rfl H0
instance:FnC Tryz.prog 191:=⟨⟨_,Tryz.func191,H0,H0⟩⟩
instance:FnC Tryz.prog 139:=⟨⟨_,Tryz.func139,H0,H0⟩⟩
instance:FnC Tryz.prog 78:=⟨⟨_,Tryz.func78,H0,H0⟩⟩
instance:FnC Tryz.prog 35:=⟨⟨_,Tryz.func35,H0,H0⟩⟩
theorem Ff:StructOf Tryz.prog 43 [hnil.v,hnil.v,hnil.v,hnil.v] [(0,1),(1,1),(2,1),(3,1)]:=n6 H0 H0
theorem P5:StT Tryz.prog 43 4:=U7 H0
instance:FnC Tryz.prog 79:=⟨⟨_,Tryz.func79,H0,H0⟩⟩
theorem sD:FnT Tryz.prog 36 Tryz.f36:=⟨Tryz.func36,H0,H0⟩
theorem Tt:FnT Tryz.prog 10 Tryz.f10:=⟨Tryz.func10,H0,H0⟩
instance:FnC Tryz.prog 38:=⟨⟨_,Tryz.func38,H0,H0⟩⟩
instance:FnC Tryz.prog 11:=⟨⟨_,Tryz.func11,H0,H0⟩⟩
instance:FnC Tryz.prog 12:=⟨⟨_,Tryz.func12,H0,H0⟩⟩
instance:FnC Tryz.prog 40:=⟨⟨_,Tryz.func40,H0,H0⟩⟩
instance:FnC Tryz.prog 41:=⟨⟨_,Tryz.func41,H0,H0⟩⟩
instance:FnC Tryz.prog 14:=⟨⟨_,Tryz.func14,H0,H0⟩⟩
instance:FnC Tryz.prog 192:=⟨⟨_,Tryz.func192,H0,H0⟩⟩
instance:FnC Tryz.prog 143:=⟨⟨_,Tryz.func143,H0,H0⟩⟩
instance:FnC Tryz.prog 84:=⟨⟨_,Tryz.func84,H0,H0⟩⟩
theorem l8:SlT Tryz.prog 192 67 rH hnil:=I6 (zv:=hnil.v) (by_:=24) H0 H0 n0 (fun _ _=>rfl)
theorem m8:OneT Tryz.prog 67:=s6 (by kernel_rfl:Tryz.prog.underlying 67=some (.slice 65)) rfl H0
instance:FnC Tryz.prog 144:=⟨⟨_,Tryz.func144,H0,H0⟩⟩
instance:FnC Tryz.prog 145:=⟨⟨_,Tryz.func145,H0,H0⟩⟩
instance:FnC Tryz.prog 146:=⟨⟨_,Tryz.func146,H0,H0⟩⟩
instance:FnC Tryz.prog 86:=⟨⟨_,Tryz.func86,H0,H0⟩⟩
instance:FnC Tryz.prog 87:=⟨⟨_,Tryz.func87,H0,H0⟩⟩
instance:FnC Tryz.prog 85:=⟨⟨_,Tryz.func85,H0,H0⟩⟩
instance:FnC Tryz.prog 88:=⟨⟨_,Tryz.func88,H0,H0⟩⟩
instance:FnC Tryz.prog 89:=⟨⟨_,Tryz.func89,H0,H0⟩⟩
instance:FnC Tryz.prog 39:=⟨⟨_,Tryz.func39,H0,H0⟩⟩
instance:FnC Tryz.prog 13:=⟨⟨_,Tryz.func13,H0,H0⟩⟩
instance:ZtC Tryz.prog 27 [.int .i64 0,.int .i64 0,hnil.v,hnil.v,hnil.v]:=⟨Ef⟩
instance:SlC Tryz.prog 24 3 (rI .i64) 0:=⟨N0⟩
instance:SoC Tryz.prog 27 [.int .i64 0,.int .i64 0,hnil.v,hnil.v,hnil.v] [(0,1),(1,1),(2,1),(3,1),(4,1)]:=⟨Ns⟩
instance:StC Tryz.prog 27 5:=⟨E5⟩
instance:SlC Tryz.prog 22 55 (rI .u64) 0:=⟨YC⟩
instance:OnC Tryz.prog 55:=⟨O_55⟩
instance:OnC Tryz.prog 24:=⟨P0⟩
instance:ZtC Tryz.prog 65 [.bool false,.bool false,hnil.v,.int .i64 0]:=⟨Fc⟩
instance:ZtC Tryz.prog 63 [.bool false,hnil.v]:=⟨L4⟩
instance:SlC Tryz.prog 61 108 (rI .u32) 0:=⟨Y2⟩
instance:OnC Tryz.prog 108:=⟨N4⟩
instance:SoC Tryz.prog 63 [.bool false,hnil.v] [(0,1),(1,1)]:=⟨QC⟩
instance:StC Tryz.prog 63 2:=⟨Q1⟩
instance:OnC Tryz.prog 4:=⟨O_4⟩
instance:OnC Tryz.prog 61:=⟨Zi⟩
instance:SoC Tryz.prog 65 [.bool false,.bool false,hnil.v,.int .i64 0] [(0,1),(1,2),(3,1)]:=⟨PC⟩
instance:StC Tryz.prog 65 4:=⟨J3⟩
instance:OnC Tryz.prog 3:=⟨O_3⟩
instance:OnC Tryz.prog 25:=⟨T3⟩
instance:SlC Tryz.prog 25 56 (rI .u64) 0:=⟨E2⟩
instance:SlC Tryz.prog 67 65 (rP rB (rP rB (rP (rS (rI .u32)) (rI .i64)))) (false,false,[],0):=⟨N7⟩
instance:OnC Tryz.prog 56:=⟨B5⟩
instance:SoC Tryz.prog 58 [.int .i64 0,.int .i64 0,.int .u64 0] [(0,1),(1,1),(2,1)]:=⟨Vi⟩
instance:SlC Tryz.prog 53 58 rTi64i64u64 (0,0,0):=⟨H5⟩
instance:StC Tryz.prog 58 3:=⟨j7⟩
instance:ZtC Tryz.prog 58 [.int .i64 0,.int .i64 0,.int .u64 0]:=⟨NC⟩
instance:ZtC Tryz.prog 32 [hnil.v]:=⟨Df⟩
instance:SlC Tryz.prog 95 4 rB false:=⟨K3⟩
instance:OnC Tryz.prog 95:=⟨qa⟩
instance:SlC Tryz.prog 76 95 (rS rB) []:=⟨XC⟩
instance:SlC Tryz.prog 30 24 (rS (rI .i64)) []:=⟨Q4⟩
instance:SoC Tryz.prog 32 [hnil.v] [(0,1)]:=⟨SC⟩
instance:StC Tryz.prog 32 1:=⟨Z3⟩
instance:OnC Tryz.prog 30:=⟨M4⟩
instance:ZtC Tryz.prog 37 [hnil.v,hnil.v,hnil.v]:=⟨Cf⟩
instance:ZtC Tryz.prog 121 [hnil.v,hnil.v,hnil.v]:=⟨Gc⟩
instance:SoC Tryz.prog 121 [hnil.v,hnil.v,hnil.v] [(0,1),(1,1),(2,1)]:=⟨Hf⟩
instance:StC Tryz.prog 121 3:=⟨Eb⟩
instance:ZtC Tryz.prog 205 [.int .i64 0,.int .i64 0]:=⟨OC⟩
instance:ZtC Tryz.prog 169 [hnil.v,hnil.v]:=⟨Ks⟩
instance:SoC Tryz.prog 240 [hnil.v,hnil.v,hnil.v,hnil.v] [(0,1),(1,1),(2,1),(3,1)]:=⟨TC⟩
instance:SoC Tryz.prog 169 [hnil.v,hnil.v] [(0,1),(1,1)]:=⟨Wi⟩
instance:StC Tryz.prog 169 2:=⟨Hc⟩
instance:StC Tryz.prog 37 3:=⟨Db⟩
instance:SoC Tryz.prog 37 [hnil.v,hnil.v,hnil.v] [(0,1),(1,1),(2,1)]:=⟨RC⟩
instance:SoC Tryz.prog 175 [hnil.v,hnil.v] [(0,1),(1,1)]:=⟨VC⟩
instance:OnC Tryz.prog 76:=⟨Xi⟩
instance:ZtC Tryz.prog 43 [hnil.v,hnil.v,hnil.v,hnil.v]:=⟨Bf⟩
instance:SoC Tryz.prog 90 [.int .i64 0,hnil.v,hnil.v] [(0,1),(1,1),(2,1)]:=⟨Ms⟩
instance:OnC Tryz.prog 88:=⟨U3⟩
instance:OnC Tryz.prog 127:=⟨k7⟩
instance:SoC Tryz.prog 189 [hnil.v,hnil.v] [(0,1),(1,1)]:=⟨UC⟩
instance:SoC Tryz.prog 132 [hnil.v,hnil.v,hnil.v,hnil.v] [(0,1),(1,1),(2,1),(3,1)]:=⟨WC⟩
instance:ZtC Tryz.prog 183 [.bool false,.bool false,hnil.v,.int .i64 0,.bool false]:=⟨Js⟩
instance:SoC Tryz.prog 183 [.bool false,.bool false,hnil.v,.int .i64 0,.bool false] [(0,1),(1,2),(3,1),(4,1)]:=⟨Ps⟩
instance:StC Tryz.prog 183 5:=⟨Ui⟩
instance:OnC Tryz.prog 130:=⟨C4⟩
instance:SoC Tryz.prog 43 [hnil.v,hnil.v,hnil.v,hnil.v] [(0,1),(1,1),(2,1),(3,1)]:=⟨Ff⟩
instance:StC Tryz.prog 43 4:=⟨P5⟩
instance:OnC Tryz.prog 67:=⟨m8⟩
end Go.Proofs.YtoahkigijbeegaaGreatDoor
