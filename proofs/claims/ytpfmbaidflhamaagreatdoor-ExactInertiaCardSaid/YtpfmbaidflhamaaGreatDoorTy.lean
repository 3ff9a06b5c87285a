/- Closed facts on the types and the functions of this program. -/
import Derived.Test.YtpfmbaidflhamaaGreatDoorChecked
import Derived.Test.YtpfmbaidflhamaaGreatDoorTm
namespace Go.Proofs.YtpfmbaidflhamaaGreatDoor
open Go Sx
set_option maxRecDepth 100000
theorem folM : Tryz.prog.follows .mixedOrders = true := by kernel_rfl
theorem SL_22 : SlT Tryz.prog 22 32 (rS (rP rB (rS (rI .u32)))) [] := mkSl (zv := hnil.v) (by_ := 24) (by kernel_rfl) (by kernel_rfl) (by omega) (fun w X => ⟨_, rfl, Imm.nil w X (rP rB (rS (rI .u32)))⟩)
theorem O_32 : OneT Tryz.prog 32 := mkOne (by kernel_rfl : Tryz.prog.underlying 32 = some (.slice 31)) rfl (by kernel_rfl)
theorem SL_32 : SlT Tryz.prog 32 31 (rP rB (rS (rI .u32))) (false, []) := mkSl (zv := .agg #[.bool false, hnil.v]) (by_ := 32) (by kernel_rfl) (by kernel_rfl) (by omega) (fun w X => ⟨[_], _, rfl, rfl, ⟨_, rfl, Imm.nil w X (rI .u32)⟩⟩)
theorem ST_31 : StT Tryz.prog 31 2 := stOf (by kernel_rfl)
theorem FL_31_1 : FldT Tryz.prog 31 1 1 := fldOf (by kernel_rfl)
theorem O_29 : OneT Tryz.prog 29 := mkOne (by kernel_rfl : Tryz.prog.underlying 29 = some (.slice 103)) rfl (by kernel_rfl)
theorem SL_29 : SlT Tryz.prog 29 103 (rI .u32) 0 := mkSl (zv := .int .u32 0) (by_ := 4) (by kernel_rfl) (by kernel_rfl) (by omega) (fun _ _ => rfl)
theorem FN_59 : FnT Tryz.prog 59 Tryz.f59 := ⟨Tryz.func59, by kernel_rfl, by kernel_rfl⟩
theorem FN_17 : FnT Tryz.prog 17 Tryz.f17 := ⟨Tryz.func17, by kernel_rfl, by kernel_rfl⟩
theorem FN_9 : FnT Tryz.prog 9 Tryz.f9 := ⟨Tryz.func9, by kernel_rfl, by kernel_rfl⟩
theorem ZT_31 : ZeroT Tryz.prog 31 [.bool false, hnil.v] := mkZ (zv := .agg #[.bool false, hnil.v]) (by kernel_rfl) rfl
theorem FL_31_0 : FldT Tryz.prog 31 0 0 := fldOf (by kernel_rfl)
theorem O_4 : OneT Tryz.prog 4 := mkOne (by kernel_rfl : Tryz.prog.underlying 4 = some (.bool)) rfl (by kernel_rfl)
theorem SO_31 : StructOf Tryz.prog 31 [.bool false, hnil.v] [(0, 1), (1, 1)] := soOf (by kernel_rfl) (by kernel_rfl)
theorem O_103 : OneT Tryz.prog 103 := mkOne (by kernel_rfl : Tryz.prog.underlying 103 = some (.int .u32)) rfl (by kernel_rfl)
theorem FN_60 : FnT Tryz.prog 60 Tryz.f60 := ⟨Tryz.func60, by kernel_rfl, by kernel_rfl⟩
theorem FN_18 : FnT Tryz.prog 18 Tryz.f18 := ⟨Tryz.func18, by kernel_rfl, by kernel_rfl⟩
theorem SLH_22 : SlT Tryz.prog 22 32 rH hnil := mkSl (zv := hnil.v) (by_ := 24) (by kernel_rfl) (by kernel_rfl) (by omega) (fun _ _ => rfl)
theorem FN_11 : FnT Tryz.prog 11 Tryz.f11 := ⟨Tryz.func11, by kernel_rfl, by kernel_rfl⟩
theorem SL_48 : SlT Tryz.prog 48 3 (rI .i64) 0 := mkSl (zv := .int .i64 0) (by_ := 8) (by kernel_rfl) (by kernel_rfl) (by omega) (fun _ _ => rfl)
theorem O_3 : OneT Tryz.prog 3 := mkOne (by kernel_rfl : Tryz.prog.underlying 3 = some (.int .i64)) rfl (by kernel_rfl)
theorem FN_51 : FnT Tryz.prog 51 Tryz.f51 := ⟨Tryz.func51, by kernel_rfl, by kernel_rfl⟩
theorem FN_13 : FnT Tryz.prog 13 Tryz.f13 := ⟨Tryz.func13, by kernel_rfl, by kernel_rfl⟩
theorem FN_12 : FnT Tryz.prog 12 Tryz.f12 := ⟨Tryz.func12, by kernel_rfl, by kernel_rfl⟩
theorem FN_65 : FnT Tryz.prog 65 Tryz.f65 := ⟨Tryz.func65, by kernel_rfl, by kernel_rfl⟩
theorem ZT_3 : ZeroT Tryz.prog 3 [.int .i64 0] := mkZ (zv := .int .i64 0) (by kernel_rfl) rfl
theorem FN_109 : FnT Tryz.prog 109 Tryz.f109 := ⟨Tryz.func109, by kernel_rfl, by kernel_rfl⟩
theorem FN_141 : FnT Tryz.prog 141 Tryz.f141 := ⟨Tryz.func141, by kernel_rfl, by kernel_rfl⟩
theorem FN_108 : FnT Tryz.prog 108 Tryz.f108 := ⟨Tryz.func108, by kernel_rfl, by kernel_rfl⟩
theorem FN_64 : FnT Tryz.prog 64 Tryz.f64 := ⟨Tryz.func64, by kernel_rfl, by kernel_rfl⟩
theorem FN_52 : FnT Tryz.prog 52 Tryz.f52 := ⟨Tryz.func52, by kernel_rfl, by kernel_rfl⟩
theorem FN_73 : FnT Tryz.prog 73 Tryz.f73 := ⟨Tryz.func73, by kernel_rfl, by kernel_rfl⟩
theorem FN_29 : FnT Tryz.prog 29 Tryz.f29 := ⟨Tryz.func29, by kernel_rfl, by kernel_rfl⟩
theorem FN_157 : FnT Tryz.prog 157 Tryz.f157 := ⟨Tryz.func157, by kernel_rfl, by kernel_rfl⟩
theorem FN_138 : FnT Tryz.prog 138 Tryz.f138 := ⟨Tryz.func138, by kernel_rfl, by kernel_rfl⟩
theorem FN_156 : FnT Tryz.prog 156 Tryz.f156 := ⟨Tryz.func156, by kernel_rfl, by kernel_rfl⟩
theorem FN_137 : FnT Tryz.prog 137 Tryz.f137 := ⟨Tryz.func137, by kernel_rfl, by kernel_rfl⟩
theorem FN_99 : FnT Tryz.prog 99 Tryz.f99 := ⟨Tryz.func99, by kernel_rfl, by kernel_rfl⟩
theorem FN_47 : FnT Tryz.prog 47 Tryz.f47 := ⟨Tryz.func47, by kernel_rfl, by kernel_rfl⟩
theorem FN_92 : FnT Tryz.prog 92 Tryz.f92 := ⟨Tryz.func92, by kernel_rfl, by kernel_rfl⟩
theorem FN_76 : FnT Tryz.prog 76 Tryz.f76 := ⟨Tryz.func76, by kernel_rfl, by kernel_rfl⟩
theorem FN_104 : FnT Tryz.prog 104 Tryz.f104 := ⟨Tryz.func104, by kernel_rfl, by kernel_rfl⟩
theorem FN_54 : FnT Tryz.prog 54 Tryz.f54 := ⟨Tryz.func54, by kernel_rfl, by kernel_rfl⟩
theorem FN_82 : FnT Tryz.prog 82 Tryz.f82 := ⟨Tryz.func82, by kernel_rfl, by kernel_rfl⟩
theorem FN_112 : FnT Tryz.prog 112 Tryz.f112 := ⟨Tryz.func112, by kernel_rfl, by kernel_rfl⟩
theorem FN_113 : FnT Tryz.prog 113 Tryz.f113 := ⟨Tryz.func113, by kernel_rfl, by kernel_rfl⟩
theorem FN_75 : FnT Tryz.prog 75 Tryz.f75 := ⟨Tryz.func75, by kernel_rfl, by kernel_rfl⟩
theorem FN_77 : FnT Tryz.prog 77 Tryz.f77 := ⟨Tryz.func77, by kernel_rfl, by kernel_rfl⟩
theorem FN_32 : FnT Tryz.prog 32 Tryz.f32 := ⟨Tryz.func32, by kernel_rfl, by kernel_rfl⟩
theorem FN_103 : FnT Tryz.prog 103 Tryz.f103 := ⟨Tryz.func103, by kernel_rfl, by kernel_rfl⟩
theorem FN_94 : FnT Tryz.prog 94 Tryz.f94 := ⟨Tryz.func94, by kernel_rfl, by kernel_rfl⟩
theorem FN_147 : FnT Tryz.prog 147 Tryz.f147 := ⟨Tryz.func147, by kernel_rfl, by kernel_rfl⟩
theorem FN_126 : FnT Tryz.prog 126 Tryz.f126 := ⟨Tryz.func126, by kernel_rfl, by kernel_rfl⟩
theorem FN_127 : FnT Tryz.prog 127 Tryz.f127 := ⟨Tryz.func127, by kernel_rfl, by kernel_rfl⟩
theorem FN_128 : FnT Tryz.prog 128 Tryz.f128 := ⟨Tryz.func128, by kernel_rfl, by kernel_rfl⟩
theorem FN_149 : FnT Tryz.prog 149 Tryz.f149 := ⟨Tryz.func149, by kernel_rfl, by kernel_rfl⟩
theorem FN_161 : FnT Tryz.prog 161 Tryz.f161 := ⟨Tryz.func161, by kernel_rfl, by kernel_rfl⟩
theorem FN_148 : FnT Tryz.prog 148 Tryz.f148 := ⟨Tryz.func148, by kernel_rfl, by kernel_rfl⟩
theorem FN_129 : FnT Tryz.prog 129 Tryz.f129 := ⟨Tryz.func129, by kernel_rfl, by kernel_rfl⟩
theorem FN_93 : FnT Tryz.prog 93 Tryz.f93 := ⟨Tryz.func93, by kernel_rfl, by kernel_rfl⟩
theorem FN_114 : FnT Tryz.prog 114 Tryz.f114 := ⟨Tryz.func114, by kernel_rfl, by kernel_rfl⟩
theorem FN_81 : FnT Tryz.prog 81 Tryz.f81 := ⟨Tryz.func81, by kernel_rfl, by kernel_rfl⟩
theorem FN_80 : FnT Tryz.prog 80 Tryz.f80 := ⟨Tryz.func80, by kernel_rfl, by kernel_rfl⟩
theorem FN_53 : FnT Tryz.prog 53 Tryz.f53 := ⟨Tryz.func53, by kernel_rfl, by kernel_rfl⟩
theorem FN_14 : FnT Tryz.prog 14 Tryz.f14 := ⟨Tryz.func14, by kernel_rfl, by kernel_rfl⟩
theorem FN_116 : FnT Tryz.prog 116 Tryz.f116 := ⟨Tryz.func116, by kernel_rfl, by kernel_rfl⟩
theorem FN_110 : FnT Tryz.prog 110 Tryz.f110 := ⟨Tryz.func110, by kernel_rfl, by kernel_rfl⟩
theorem FN_142 : FnT Tryz.prog 142 Tryz.f142 := ⟨Tryz.func142, by kernel_rfl, by kernel_rfl⟩
theorem FN_143 : FnT Tryz.prog 143 Tryz.f143 := ⟨Tryz.func143, by kernel_rfl, by kernel_rfl⟩
theorem FN_144 : FnT Tryz.prog 144 Tryz.f144 := ⟨Tryz.func144, by kernel_rfl, by kernel_rfl⟩
theorem FN_71 : FnT Tryz.prog 71 Tryz.f71 := ⟨Tryz.func71, by kernel_rfl, by kernel_rfl⟩
theorem FN_111 : FnT Tryz.prog 111 Tryz.f111 := ⟨Tryz.func111, by kernel_rfl, by kernel_rfl⟩
theorem FN_105 : FnT Tryz.prog 105 Tryz.f105 := ⟨Tryz.func105, by kernel_rfl, by kernel_rfl⟩
theorem FN_78 : FnT Tryz.prog 78 Tryz.f78 := ⟨Tryz.func78, by kernel_rfl, by kernel_rfl⟩
theorem FN_34 : FnT Tryz.prog 34 Tryz.f34 := ⟨Tryz.func34, by kernel_rfl, by kernel_rfl⟩
theorem FN_55 : FnT Tryz.prog 55 Tryz.f55 := ⟨Tryz.func55, by kernel_rfl, by kernel_rfl⟩
theorem FN_15 : FnT Tryz.prog 15 Tryz.f15 := ⟨Tryz.func15, by kernel_rfl, by kernel_rfl⟩
theorem FN_84 : FnT Tryz.prog 84 Tryz.f84 := ⟨Tryz.func84, by kernel_rfl, by kernel_rfl⟩
theorem SO_80 : StructOf Tryz.prog 80 [.bool false, hnil.v, .bool false, hnil.v] [(0, 2), (2, 2)] := soOf (by kernel_rfl) (by kernel_rfl)
theorem SL_81 : SlT Tryz.prog 81 80 (rP rB (rP (rS (rI .u32)) (rP rB (rS (rI .u32))))) (false, [], false, []) := mkSl (zv := .agg #[.bool false, hnil.v, .bool false, hnil.v]) (by_ := 64) (by kernel_rfl) (by kernel_rfl) (by omega) (fun w X => ⟨[_], _, rfl, rfl, ⟨[_], _, rfl, ⟨_, rfl, Imm.nil w X (rI .u32)⟩, ⟨[_], _, rfl, rfl, ⟨_, rfl, Imm.nil w X (rI .u32)⟩⟩⟩⟩)
theorem SLH_75 : SlT Tryz.prog 75 81 rH hnil := mkSl (zv := hnil.v) (by_ := 24) (by kernel_rfl) (by kernel_rfl) (by omega) (fun _ _ => rfl)
theorem FN_56 : FnT Tryz.prog 56 Tryz.f56 := ⟨Tryz.func56, by kernel_rfl, by kernel_rfl⟩
theorem SL_75 : SlT Tryz.prog 75 81 (rS (rP rB (rP (rS (rI .u32)) (rP rB (rS (rI .u32)))))) [] := mkSl (zv := hnil.v) (by_ := 24) (by kernel_rfl) (by kernel_rfl) (by omega) (fun w X => ⟨_, rfl, Imm.nil w X (rP rB (rP (rS (rI .u32)) (rP rB (rS (rI .u32)))))⟩)
theorem FL_80_0 : FldT Tryz.prog 80 0 0 := fldOf (by kernel_rfl)
theorem O_81 : OneT Tryz.prog 81 := mkOne (by kernel_rfl : Tryz.prog.underlying 81 = some (.slice 80)) rfl (by kernel_rfl)
theorem ST_80 : StT Tryz.prog 80 4 := stOf (by kernel_rfl)
theorem FN_106 : FnT Tryz.prog 106 Tryz.f106 := ⟨Tryz.func106, by kernel_rfl, by kernel_rfl⟩
theorem FN_57 : FnT Tryz.prog 57 Tryz.f57 := ⟨Tryz.func57, by kernel_rfl, by kernel_rfl⟩
theorem ZT_80 : ZeroT Tryz.prog 80 [.bool false, hnil.v, .bool false, hnil.v] := mkZ (zv := .agg #[.bool false, hnil.v, .bool false, hnil.v]) (by kernel_rfl) rfl
theorem FN_115 : FnT Tryz.prog 115 Tryz.f115 := ⟨Tryz.func115, by kernel_rfl, by kernel_rfl⟩
theorem FN_72 : FnT Tryz.prog 72 Tryz.f72 := ⟨Tryz.func72, by kernel_rfl, by kernel_rfl⟩
theorem FN_158 : FnT Tryz.prog 158 Tryz.f158 := ⟨Tryz.func158, by kernel_rfl, by kernel_rfl⟩
theorem FN_159 : FnT Tryz.prog 159 Tryz.f159 := ⟨Tryz.func159, by kernel_rfl, by kernel_rfl⟩
theorem FN_160 : FnT Tryz.prog 160 Tryz.f160 := ⟨Tryz.func160, by kernel_rfl, by kernel_rfl⟩
theorem FN_145 : FnT Tryz.prog 145 Tryz.f145 := ⟨Tryz.func145, by kernel_rfl, by kernel_rfl⟩
theorem FN_117 : FnT Tryz.prog 117 Tryz.f117 := ⟨Tryz.func117, by kernel_rfl, by kernel_rfl⟩
theorem FN_88 : FnT Tryz.prog 88 Tryz.f88 := ⟨Tryz.func88, by kernel_rfl, by kernel_rfl⟩
theorem FN_87 : FnT Tryz.prog 87 Tryz.f87 := ⟨Tryz.func87, by kernel_rfl, by kernel_rfl⟩
theorem FL_80_1 : FldT Tryz.prog 80 1 2 := fldOf (by kernel_rfl)
theorem FN_86 : FnT Tryz.prog 86 Tryz.f86 := ⟨Tryz.func86, by kernel_rfl, by kernel_rfl⟩
theorem FN_85 : FnT Tryz.prog 85 Tryz.f85 := ⟨Tryz.func85, by kernel_rfl, by kernel_rfl⟩
theorem FN_58 : FnT Tryz.prog 58 Tryz.f58 := ⟨Tryz.func58, by kernel_rfl, by kernel_rfl⟩
theorem FN_16 : FnT Tryz.prog 16 Tryz.f16 := ⟨Tryz.func16, by kernel_rfl, by kernel_rfl⟩
theorem FN_50 : FnT Tryz.prog 50 Tryz.f50 := ⟨Tryz.func50, by kernel_rfl, by kernel_rfl⟩
theorem ZT_86 : ZeroT Tryz.prog 86 [hnil.v, hnil.v, .bool false, hnil.v, .int .i64 0] := mkZ (zv := .agg #[hnil.v, hnil.v, .bool false, hnil.v, .int .i64 0]) (by kernel_rfl) rfl
theorem SO_86 : StructOf Tryz.prog 86 [hnil.v, hnil.v, .bool false, hnil.v, .int .i64 0] [(0, 1), (1, 1), (2, 2), (4, 1)] := soOf (by kernel_rfl) (by kernel_rfl)
theorem ST_86 : StT Tryz.prog 86 5 := stOf (by kernel_rfl)
theorem FL_86_1 : FldT Tryz.prog 86 1 1 := fldOf (by kernel_rfl)
theorem O_48 : OneT Tryz.prog 48 := mkOne (by kernel_rfl : Tryz.prog.underlying 48 = some (.slice 3)) rfl (by kernel_rfl)
theorem FL_86_0 : FldT Tryz.prog 86 0 0 := fldOf (by kernel_rfl)
theorem O_22 : OneT Tryz.prog 22 := mkOne (by kernel_rfl : Tryz.prog.underlying 22 = some (.slice 32)) rfl (by kernel_rfl)
theorem FL_86_3 : FldT Tryz.prog 86 3 4 := fldOf (by kernel_rfl)
theorem FN_31 : FnT Tryz.prog 31 Tryz.f31 := ⟨Tryz.func31, by kernel_rfl, by kernel_rfl⟩
theorem FL_86_2 : FldT Tryz.prog 86 2 2 := fldOf (by kernel_rfl)
theorem FN_140 : FnT Tryz.prog 140 Tryz.f140 := ⟨Tryz.func140, by kernel_rfl, by kernel_rfl⟩
theorem FN_107 : FnT Tryz.prog 107 Tryz.f107 := ⟨Tryz.func107, by kernel_rfl, by kernel_rfl⟩
theorem FN_61 : FnT Tryz.prog 61 Tryz.f61 := ⟨Tryz.func61, by kernel_rfl, by kernel_rfl⟩
theorem FN_62 : FnT Tryz.prog 62 Tryz.f62 := ⟨Tryz.func62, by kernel_rfl, by kernel_rfl⟩
theorem FN_63 : FnT Tryz.prog 63 Tryz.f63 := ⟨Tryz.func63, by kernel_rfl, by kernel_rfl⟩
theorem FN_19 : FnT Tryz.prog 19 Tryz.f19 := ⟨Tryz.func19, by kernel_rfl, by kernel_rfl⟩
theorem FN_95 : FnT Tryz.prog 95 Tryz.f95 := ⟨Tryz.func95, by kernel_rfl, by kernel_rfl⟩
theorem SL_110 : SlT Tryz.prog 110 9 rG (⟨#[]⟩ : ByteArray) := mkSl (zv := .string ⟨#[]⟩) (by_ := 16) (by kernel_rfl) (by kernel_rfl) (by omega) (fun _ _ => rfl)
theorem O_9 : OneT Tryz.prog 9 := mkOne (by kernel_rfl : Tryz.prog.underlying 9 = some (.string)) rfl (by kernel_rfl)
theorem FN_97 : FnT Tryz.prog 97 Tryz.f97 := ⟨Tryz.func97, by kernel_rfl, by kernel_rfl⟩
theorem FN_98 : FnT Tryz.prog 98 Tryz.f98 := ⟨Tryz.func98, by kernel_rfl, by kernel_rfl⟩
theorem FN_45 : FnT Tryz.prog 45 Tryz.f45 := ⟨Tryz.func45, by kernel_rfl, by kernel_rfl⟩
theorem FN_10 : FnT Tryz.prog 10 Tryz.f10 := ⟨Tryz.func10, by kernel_rfl, by kernel_rfl⟩
end Go.Proofs.YtpfmbaidflhamaaGreatDoor
