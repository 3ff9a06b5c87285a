/- Closed facts on the types and the functions of this program. -/
import Derived.Test.YtgnfkbaghjmgiaaGreatDoorChecked
import Derived.Test.YtgnfkbaghjmgiaaGreatDoorTm
namespace Go.Proofs.YtgnfkbaghjmgiaaGreatDoor
open Go Sx
set_option maxRecDepth 100000
theorem folM : Tryz.prog.follows .mixedOrders = true := by kernel_rfl
theorem SL_22 : SlT Tryz.prog 22 3 (rI .i64) 0 := mkSl (zv := .int .i64 0) (by_ := 8) (by kernel_rfl) (by kernel_rfl) (by omega) (fun _ _ => rfl)
theorem SL_25 : SlT Tryz.prog 25 47 (rI .u64) 0 := mkSl (zv := .int .u64 0) (by_ := 8) (by kernel_rfl) (by kernel_rfl) (by omega) (fun _ _ => rfl)
theorem SO_27 : StructOf Tryz.prog 27 [.int .i64 0, .int .i64 0, hnil.v, hnil.v, hnil.v] [(0, 1), (1, 1), (2, 1), (3, 1), (4, 1)] := soOf (by kernel_rfl) (by kernel_rfl)
theorem ZT_27 : ZeroT Tryz.prog 27 [.int .i64 0, .int .i64 0, hnil.v, hnil.v, hnil.v] := mkZ (zv := .agg #[.int .i64 0, .int .i64 0, hnil.v, hnil.v, hnil.v]) (by kernel_rfl) rfl
theorem ST_27 : StT Tryz.prog 27 5 := stOf (by kernel_rfl)
theorem ZT_36 : ZeroT Tryz.prog 36 [hnil.v, hnil.v, hnil.v] := mkZ (zv := .agg #[hnil.v, hnil.v, hnil.v]) (by kernel_rfl) rfl
theorem FL_27_0 : FldT Tryz.prog 27 0 0 := fldOf (by kernel_rfl)
theorem O_3 : OneT Tryz.prog 3 := mkOne (by kernel_rfl : Tryz.prog.underlying 3 = some (.int .i64)) rfl (by kernel_rfl)
theorem FN_70 : FnT Tryz.prog 70 Tryz.f70 := ⟨Tryz.func70, by kernel_rfl, by kernel_rfl⟩
theorem FL_27_1 : FldT Tryz.prog 27 1 1 := fldOf (by kernel_rfl)
theorem FL_27_3 : FldT Tryz.prog 27 3 3 := fldOf (by kernel_rfl)
theorem O_22 : OneT Tryz.prog 22 := mkOne (by kernel_rfl : Tryz.prog.underlying 22 = some (.slice 3)) rfl (by kernel_rfl)
theorem FL_27_2 : FldT Tryz.prog 27 2 2 := fldOf (by kernel_rfl)
theorem FN_123 : FnT Tryz.prog 123 Tryz.f123 := ⟨Tryz.func123, by kernel_rfl, by kernel_rfl⟩
theorem FN_94 : FnT Tryz.prog 94 Tryz.f94 := ⟨Tryz.func94, by kernel_rfl, by kernel_rfl⟩
theorem FN_99 : FnT Tryz.prog 99 Tryz.f99 := ⟨Tryz.func99, by kernel_rfl, by kernel_rfl⟩
theorem FL_27_4 : FldT Tryz.prog 27 4 4 := fldOf (by kernel_rfl)
theorem O_25 : OneT Tryz.prog 25 := mkOne (by kernel_rfl : Tryz.prog.underlying 25 = some (.slice 47)) rfl (by kernel_rfl)
theorem FN_71 : FnT Tryz.prog 71 Tryz.f71 := ⟨Tryz.func71, by kernel_rfl, by kernel_rfl⟩
theorem O_47 : OneT Tryz.prog 47 := mkOne (by kernel_rfl : Tryz.prog.underlying 47 = some (.int .u64)) rfl (by kernel_rfl)
theorem FN_101 : FnT Tryz.prog 101 Tryz.f101 := ⟨Tryz.func101, by kernel_rfl, by kernel_rfl⟩
theorem FN_74 : FnT Tryz.prog 74 Tryz.f74 := ⟨Tryz.func74, by kernel_rfl, by kernel_rfl⟩
theorem FN_73 : FnT Tryz.prog 73 Tryz.f73 := ⟨Tryz.func73, by kernel_rfl, by kernel_rfl⟩
theorem FN_100 : FnT Tryz.prog 100 Tryz.f100 := ⟨Tryz.func100, by kernel_rfl, by kernel_rfl⟩
theorem FN_72 : FnT Tryz.prog 72 Tryz.f72 := ⟨Tryz.func72, by kernel_rfl, by kernel_rfl⟩
theorem FN_51 : FnT Tryz.prog 51 Tryz.f51 := ⟨Tryz.func51, by kernel_rfl, by kernel_rfl⟩
theorem FN_44 : FnT Tryz.prog 44 Tryz.f44 := ⟨Tryz.func44, by kernel_rfl, by kernel_rfl⟩
theorem SL_78 : SlT Tryz.prog 78 22 (rS (rI .i64)) [] := mkSl (zv := hnil.v) (by_ := 24) (by kernel_rfl) (by kernel_rfl) (by omega) (fun w X => ⟨_, rfl, Imm.nil w X (rI .i64)⟩)
theorem FN_75 : FnT Tryz.prog 75 Tryz.f75 := ⟨Tryz.func75, by kernel_rfl, by kernel_rfl⟩
theorem FN_76 : FnT Tryz.prog 76 Tryz.f76 := ⟨Tryz.func76, by kernel_rfl, by kernel_rfl⟩
theorem SO_87 : StructOf Tryz.prog 87 [hnil.v, hnil.v, hnil.v, hnil.v] [(0, 1), (1, 1), (2, 1), (3, 1)] := soOf (by kernel_rfl) (by kernel_rfl)
theorem SL_56 : SlT Tryz.prog 56 4 rB false := mkSl (zv := .bool false) (by_ := 1) (by kernel_rfl) (by kernel_rfl) (by omega) (fun _ _ => rfl)
theorem FL_87_3 : FldT Tryz.prog 87 3 3 := fldOf (by kernel_rfl)
theorem O_56 : OneT Tryz.prog 56 := mkOne (by kernel_rfl : Tryz.prog.underlying 56 = some (.slice 4)) rfl (by kernel_rfl)
theorem FL_87_0 : FldT Tryz.prog 87 0 0 := fldOf (by kernel_rfl)
theorem O_78 : OneT Tryz.prog 78 := mkOne (by kernel_rfl : Tryz.prog.underlying 78 = some (.slice 22)) rfl (by kernel_rfl)
theorem O_4 : OneT Tryz.prog 4 := mkOne (by kernel_rfl : Tryz.prog.underlying 4 = some (.bool)) rfl (by kernel_rfl)
theorem FL_87_2 : FldT Tryz.prog 87 2 2 := fldOf (by kernel_rfl)
theorem FN_77 : FnT Tryz.prog 77 Tryz.f77 := ⟨Tryz.func77, by kernel_rfl, by kernel_rfl⟩
theorem FL_87_1 : FldT Tryz.prog 87 1 1 := fldOf (by kernel_rfl)
theorem FN_52 : FnT Tryz.prog 52 Tryz.f52 := ⟨Tryz.func52, by kernel_rfl, by kernel_rfl⟩
theorem FN_21 : FnT Tryz.prog 21 Tryz.f21 := ⟨Tryz.func21, by kernel_rfl, by kernel_rfl⟩
theorem FN_66 : FnT Tryz.prog 66 Tryz.f66 := ⟨Tryz.func66, by kernel_rfl, by kernel_rfl⟩
theorem FN_45 : FnT Tryz.prog 45 Tryz.f45 := ⟨Tryz.func45, by kernel_rfl, by kernel_rfl⟩
theorem SO_36 : StructOf Tryz.prog 36 [hnil.v, hnil.v, hnil.v] [(0, 1), (1, 1), (2, 1)] := soOf (by kernel_rfl) (by kernel_rfl)
theorem ST_36 : StT Tryz.prog 36 3 := stOf (by kernel_rfl)
theorem SLH_78 : SlT Tryz.prog 78 22 rH hnil := mkSl (zv := hnil.v) (by_ := 24) (by kernel_rfl) (by kernel_rfl) (by omega) (fun _ _ => rfl)
theorem SO_49 : StructOf Tryz.prog 49 [.int .i64 0, .int .i64 0, .int .u64 0] [(0, 1), (1, 1), (2, 1)] := soOf (by kernel_rfl) (by kernel_rfl)
theorem SL_44 : SlT Tryz.prog 44 49 rTi64i64u64 (0, 0, 0) := mkSl (zv := .agg #[.int .i64 0, .int .i64 0, .int .u64 0]) (by_ := 24) (by kernel_rfl) (by kernel_rfl) (by omega) (fun _ _ => rfl)
theorem FN_61 : FnT Tryz.prog 61 Tryz.f61 := ⟨Tryz.func61, by kernel_rfl, by kernel_rfl⟩
theorem FN_55 : FnT Tryz.prog 55 Tryz.f55 := ⟨Tryz.func55, by kernel_rfl, by kernel_rfl⟩
theorem ST_49 : StT Tryz.prog 49 3 := stOf (by kernel_rfl)
theorem ZT_49 : ZeroT Tryz.prog 49 [.int .i64 0, .int .i64 0, .int .u64 0] := mkZ (zv := .agg #[.int .i64 0, .int .i64 0, .int .u64 0]) (by kernel_rfl) rfl
theorem FL_49_0 : FldT Tryz.prog 49 0 0 := fldOf (by kernel_rfl)
theorem FL_49_1 : FldT Tryz.prog 49 1 1 := fldOf (by kernel_rfl)
theorem FN_46 : FnT Tryz.prog 46 Tryz.f46 := ⟨Tryz.func46, by kernel_rfl, by kernel_rfl⟩
theorem SL_84 : SlT Tryz.prog 84 56 (rS rB) [] := mkSl (zv := hnil.v) (by_ := 24) (by kernel_rfl) (by kernel_rfl) (by omega) (fun w X => ⟨_, rfl, Imm.nil w X rB⟩)
theorem FN_67 : FnT Tryz.prog 67 Tryz.f67 := ⟨Tryz.func67, by kernel_rfl, by kernel_rfl⟩
theorem FN_47 : FnT Tryz.prog 47 Tryz.f47 := ⟨Tryz.func47, by kernel_rfl, by kernel_rfl⟩
theorem FN_48 : FnT Tryz.prog 48 Tryz.f48 := ⟨Tryz.func48, by kernel_rfl, by kernel_rfl⟩
theorem FN_49 : FnT Tryz.prog 49 Tryz.f49 := ⟨Tryz.func49, by kernel_rfl, by kernel_rfl⟩
theorem FL_36_0 : FldT Tryz.prog 36 0 0 := fldOf (by kernel_rfl)
theorem FL_36_1 : FldT Tryz.prog 36 1 1 := fldOf (by kernel_rfl)
theorem FL_36_2 : FldT Tryz.prog 36 2 2 := fldOf (by kernel_rfl)
theorem FN_15 : FnT Tryz.prog 15 Tryz.f15 := ⟨Tryz.func15, by kernel_rfl, by kernel_rfl⟩
theorem ZT_31 : ZeroT Tryz.prog 31 [hnil.v, hnil.v, hnil.v, hnil.v, hnil.v, hnil.v] := mkZ (zv := .agg #[hnil.v, hnil.v, hnil.v, hnil.v, hnil.v, hnil.v]) (by kernel_rfl) rfl
theorem FN_113 : FnT Tryz.prog 113 Tryz.f113 := ⟨Tryz.func113, by kernel_rfl, by kernel_rfl⟩
theorem FN_117 : FnT Tryz.prog 117 Tryz.f117 := ⟨Tryz.func117, by kernel_rfl, by kernel_rfl⟩
theorem FN_116 : FnT Tryz.prog 116 Tryz.f116 := ⟨Tryz.func116, by kernel_rfl, by kernel_rfl⟩
theorem FN_115 : FnT Tryz.prog 115 Tryz.f115 := ⟨Tryz.func115, by kernel_rfl, by kernel_rfl⟩
theorem FN_140 : FnT Tryz.prog 140 Tryz.f140 := ⟨Tryz.func140, by kernel_rfl, by kernel_rfl⟩
theorem FN_143 : FnT Tryz.prog 143 Tryz.f143 := ⟨Tryz.func143, by kernel_rfl, by kernel_rfl⟩
theorem FN_142 : FnT Tryz.prog 142 Tryz.f142 := ⟨Tryz.func142, by kernel_rfl, by kernel_rfl⟩
theorem FN_141 : FnT Tryz.prog 141 Tryz.f141 := ⟨Tryz.func141, by kernel_rfl, by kernel_rfl⟩
theorem FN_134 : FnT Tryz.prog 134 Tryz.f134 := ⟨Tryz.func134, by kernel_rfl, by kernel_rfl⟩
theorem FN_114 : FnT Tryz.prog 114 Tryz.f114 := ⟨Tryz.func114, by kernel_rfl, by kernel_rfl⟩
theorem FN_86 : FnT Tryz.prog 86 Tryz.f86 := ⟨Tryz.func86, by kernel_rfl, by kernel_rfl⟩
theorem FL_49_2 : FldT Tryz.prog 49 2 2 := fldOf (by kernel_rfl)
theorem FN_62 : FnT Tryz.prog 62 Tryz.f62 := ⟨Tryz.func62, by kernel_rfl, by kernel_rfl⟩
theorem FN_36 : FnT Tryz.prog 36 Tryz.f36 := ⟨Tryz.func36, by kernel_rfl, by kernel_rfl⟩
theorem FN_37 : FnT Tryz.prog 37 Tryz.f37 := ⟨Tryz.func37, by kernel_rfl, by kernel_rfl⟩
theorem FN_38 : FnT Tryz.prog 38 Tryz.f38 := ⟨Tryz.func38, by kernel_rfl, by kernel_rfl⟩
theorem FN_39 : FnT Tryz.prog 39 Tryz.f39 := ⟨Tryz.func39, by kernel_rfl, by kernel_rfl⟩
theorem SO_31 : StructOf Tryz.prog 31 [hnil.v, hnil.v, hnil.v, hnil.v, hnil.v, hnil.v] [(0, 1), (1, 1), (2, 1), (3, 1), (4, 1), (5, 1)] := soOf (by kernel_rfl) (by kernel_rfl)
theorem ST_31 : StT Tryz.prog 31 6 := stOf (by kernel_rfl)
theorem FN_13 : FnT Tryz.prog 13 Tryz.f13 := ⟨Tryz.func13, by kernel_rfl, by kernel_rfl⟩
theorem FN_32 : FnT Tryz.prog 32 Tryz.f32 := ⟨Tryz.func32, by kernel_rfl, by kernel_rfl⟩
theorem FL_31_3 : FldT Tryz.prog 31 3 3 := fldOf (by kernel_rfl)
theorem FN_125 : FnT Tryz.prog 125 Tryz.f125 := ⟨Tryz.func125, by kernel_rfl, by kernel_rfl⟩
theorem FN_102 : FnT Tryz.prog 102 Tryz.f102 := ⟨Tryz.func102, by kernel_rfl, by kernel_rfl⟩
theorem FN_78 : FnT Tryz.prog 78 Tryz.f78 := ⟨Tryz.func78, by kernel_rfl, by kernel_rfl⟩
theorem FN_53 : FnT Tryz.prog 53 Tryz.f53 := ⟨Tryz.func53, by kernel_rfl, by kernel_rfl⟩
theorem FN_54 : FnT Tryz.prog 54 Tryz.f54 := ⟨Tryz.func54, by kernel_rfl, by kernel_rfl⟩
theorem FN_24 : FnT Tryz.prog 24 Tryz.f24 := ⟨Tryz.func24, by kernel_rfl, by kernel_rfl⟩
theorem FN_9 : FnT Tryz.prog 9 Tryz.f9 := ⟨Tryz.func9, by kernel_rfl, by kernel_rfl⟩
theorem FN_10 : FnT Tryz.prog 10 Tryz.f10 := ⟨Tryz.func10, by kernel_rfl, by kernel_rfl⟩
theorem ZT_100 : ZeroT Tryz.prog 100 [.bool false, .bool false, hnil.v, .int .i64 0] := mkZ (zv := .agg #[.bool false, .bool false, hnil.v, .int .i64 0]) (by kernel_rfl) rfl
theorem ZT_98 : ZeroT Tryz.prog 98 [.bool false, hnil.v] := mkZ (zv := .agg #[.bool false, hnil.v]) (by kernel_rfl) rfl
theorem SL_96 : SlT Tryz.prog 96 133 (rI .u32) 0 := mkSl (zv := .int .u32 0) (by_ := 4) (by kernel_rfl) (by kernel_rfl) (by omega) (fun _ _ => rfl)
theorem O_133 : OneT Tryz.prog 133 := mkOne (by kernel_rfl : Tryz.prog.underlying 133 = some (.int .u32)) rfl (by kernel_rfl)
theorem FN_126 : FnT Tryz.prog 126 Tryz.f126 := ⟨Tryz.func126, by kernel_rfl, by kernel_rfl⟩
theorem SO_98 : StructOf Tryz.prog 98 [.bool false, hnil.v] [(0, 1), (1, 1)] := soOf (by kernel_rfl) (by kernel_rfl)
theorem ST_98 : StT Tryz.prog 98 2 := stOf (by kernel_rfl)
theorem FN_110 : FnT Tryz.prog 110 Tryz.f110 := ⟨Tryz.func110, by kernel_rfl, by kernel_rfl⟩
theorem FN_85 : FnT Tryz.prog 85 Tryz.f85 := ⟨Tryz.func85, by kernel_rfl, by kernel_rfl⟩
theorem FL_98_0 : FldT Tryz.prog 98 0 0 := fldOf (by kernel_rfl)
theorem FL_98_1 : FldT Tryz.prog 98 1 1 := fldOf (by kernel_rfl)
theorem O_96 : OneT Tryz.prog 96 := mkOne (by kernel_rfl : Tryz.prog.underlying 96 = some (.slice 133)) rfl (by kernel_rfl)
theorem FN_103 : FnT Tryz.prog 103 Tryz.f103 := ⟨Tryz.func103, by kernel_rfl, by kernel_rfl⟩
theorem SO_100 : StructOf Tryz.prog 100 [.bool false, .bool false, hnil.v, .int .i64 0] [(0, 1), (1, 2), (3, 1)] := soOf (by kernel_rfl) (by kernel_rfl)
theorem ST_100 : StT Tryz.prog 100 4 := stOf (by kernel_rfl)
theorem FN_83 : FnT Tryz.prog 83 Tryz.f83 := ⟨Tryz.func83, by kernel_rfl, by kernel_rfl⟩
theorem FN_133 : FnT Tryz.prog 133 Tryz.f133 := ⟨Tryz.func133, by kernel_rfl, by kernel_rfl⟩
theorem FN_111 : FnT Tryz.prog 111 Tryz.f111 := ⟨Tryz.func111, by kernel_rfl, by kernel_rfl⟩
theorem FN_82 : FnT Tryz.prog 82 Tryz.f82 := ⟨Tryz.func82, by kernel_rfl, by kernel_rfl⟩
theorem FN_130 : FnT Tryz.prog 130 Tryz.f130 := ⟨Tryz.func130, by kernel_rfl, by kernel_rfl⟩
theorem FN_131 : FnT Tryz.prog 131 Tryz.f131 := ⟨Tryz.func131, by kernel_rfl, by kernel_rfl⟩
theorem FN_136 : FnT Tryz.prog 136 Tryz.f136 := ⟨Tryz.func136, by kernel_rfl, by kernel_rfl⟩
theorem FN_137 : FnT Tryz.prog 137 Tryz.f137 := ⟨Tryz.func137, by kernel_rfl, by kernel_rfl⟩
theorem FN_138 : FnT Tryz.prog 138 Tryz.f138 := ⟨Tryz.func138, by kernel_rfl, by kernel_rfl⟩
theorem FN_139 : FnT Tryz.prog 139 Tryz.f139 := ⟨Tryz.func139, by kernel_rfl, by kernel_rfl⟩
theorem FN_129 : FnT Tryz.prog 129 Tryz.f129 := ⟨Tryz.func129, by kernel_rfl, by kernel_rfl⟩
theorem FN_132 : FnT Tryz.prog 132 Tryz.f132 := ⟨Tryz.func132, by kernel_rfl, by kernel_rfl⟩
theorem FN_107 : FnT Tryz.prog 107 Tryz.f107 := ⟨Tryz.func107, by kernel_rfl, by kernel_rfl⟩
theorem FN_112 : FnT Tryz.prog 112 Tryz.f112 := ⟨Tryz.func112, by kernel_rfl, by kernel_rfl⟩
theorem FN_97 : FnT Tryz.prog 97 Tryz.f97 := ⟨Tryz.func97, by kernel_rfl, by kernel_rfl⟩
theorem FN_104 : FnT Tryz.prog 104 Tryz.f104 := ⟨Tryz.func104, by kernel_rfl, by kernel_rfl⟩
theorem FN_84 : FnT Tryz.prog 84 Tryz.f84 := ⟨Tryz.func84, by kernel_rfl, by kernel_rfl⟩
theorem FN_60 : FnT Tryz.prog 60 Tryz.f60 := ⟨Tryz.func60, by kernel_rfl, by kernel_rfl⟩
theorem FL_100_0 : FldT Tryz.prog 100 0 0 := fldOf (by kernel_rfl)
theorem FL_100_1 : FldT Tryz.prog 100 1 1 := fldOf (by kernel_rfl)
theorem FL_100_2 : FldT Tryz.prog 100 2 3 := fldOf (by kernel_rfl)
theorem FN_79 : FnT Tryz.prog 79 Tryz.f79 := ⟨Tryz.func79, by kernel_rfl, by kernel_rfl⟩
theorem FN_80 : FnT Tryz.prog 80 Tryz.f80 := ⟨Tryz.func80, by kernel_rfl, by kernel_rfl⟩
theorem FN_59 : FnT Tryz.prog 59 Tryz.f59 := ⟨Tryz.func59, by kernel_rfl, by kernel_rfl⟩
theorem FN_109 : FnT Tryz.prog 109 Tryz.f109 := ⟨Tryz.func109, by kernel_rfl, by kernel_rfl⟩
theorem FN_105 : FnT Tryz.prog 105 Tryz.f105 := ⟨Tryz.func105, by kernel_rfl, by kernel_rfl⟩
theorem FN_127 : FnT Tryz.prog 127 Tryz.f127 := ⟨Tryz.func127, by kernel_rfl, by kernel_rfl⟩
theorem FN_128 : FnT Tryz.prog 128 Tryz.f128 := ⟨Tryz.func128, by kernel_rfl, by kernel_rfl⟩
theorem FN_106 : FnT Tryz.prog 106 Tryz.f106 := ⟨Tryz.func106, by kernel_rfl, by kernel_rfl⟩
theorem FN_108 : FnT Tryz.prog 108 Tryz.f108 := ⟨Tryz.func108, by kernel_rfl, by kernel_rfl⟩
theorem FN_81 : FnT Tryz.prog 81 Tryz.f81 := ⟨Tryz.func81, by kernel_rfl, by kernel_rfl⟩
theorem FN_58 : FnT Tryz.prog 58 Tryz.f58 := ⟨Tryz.func58, by kernel_rfl, by kernel_rfl⟩
theorem FN_33 : FnT Tryz.prog 33 Tryz.f33 := ⟨Tryz.func33, by kernel_rfl, by kernel_rfl⟩
theorem FN_34 : FnT Tryz.prog 34 Tryz.f34 := ⟨Tryz.func34, by kernel_rfl, by kernel_rfl⟩
theorem FN_11 : FnT Tryz.prog 11 Tryz.f11 := ⟨Tryz.func11, by kernel_rfl, by kernel_rfl⟩
theorem FN_35 : FnT Tryz.prog 35 Tryz.f35 := ⟨Tryz.func35, by kernel_rfl, by kernel_rfl⟩
theorem FN_12 : FnT Tryz.prog 12 Tryz.f12 := ⟨Tryz.func12, by kernel_rfl, by kernel_rfl⟩
theorem FN_87 : FnT Tryz.prog 87 Tryz.f87 := ⟨Tryz.func87, by kernel_rfl, by kernel_rfl⟩
theorem FN_63 : FnT Tryz.prog 63 Tryz.f63 := ⟨Tryz.func63, by kernel_rfl, by kernel_rfl⟩
theorem FN_40 : FnT Tryz.prog 40 Tryz.f40 := ⟨Tryz.func40, by kernel_rfl, by kernel_rfl⟩
theorem FN_20 : FnT Tryz.prog 20 Tryz.f20 := ⟨Tryz.func20, by kernel_rfl, by kernel_rfl⟩
theorem FN_41 : FnT Tryz.prog 41 Tryz.f41 := ⟨Tryz.func41, by kernel_rfl, by kernel_rfl⟩
theorem FN_64 : FnT Tryz.prog 64 Tryz.f64 := ⟨Tryz.func64, by kernel_rfl, by kernel_rfl⟩
theorem SO_91 : StructOf Tryz.prog 91 [.int .i64 0, .int .i64 0, hnil.v, hnil.v, hnil.v, hnil.v, hnil.v, hnil.v] [(0, 5), (5, 1), (6, 1), (7, 1)] := soOf (by kernel_rfl) (by kernel_rfl)
theorem FL_91_3 : FldT Tryz.prog 91 3 7 := fldOf (by kernel_rfl)
theorem FL_91_0 : FldT Tryz.prog 91 0 0 := fldOf (by kernel_rfl)
theorem FL_91_1 : FldT Tryz.prog 91 1 5 := fldOf (by kernel_rfl)
theorem FN_65 : FnT Tryz.prog 65 Tryz.f65 := ⟨Tryz.func65, by kernel_rfl, by kernel_rfl⟩
theorem FL_91_2 : FldT Tryz.prog 91 2 6 := fldOf (by kernel_rfl)
theorem FN_43 : FnT Tryz.prog 43 Tryz.f43 := ⟨Tryz.func43, by kernel_rfl, by kernel_rfl⟩
theorem FN_42 : FnT Tryz.prog 42 Tryz.f42 := ⟨Tryz.func42, by kernel_rfl, by kernel_rfl⟩
theorem FN_27 : FnT Tryz.prog 27 Tryz.f27 := ⟨Tryz.func27, by kernel_rfl, by kernel_rfl⟩
theorem FL_31_2 : FldT Tryz.prog 31 2 2 := fldOf (by kernel_rfl)
theorem FN_14 : FnT Tryz.prog 14 Tryz.f14 := ⟨Tryz.func14, by kernel_rfl, by kernel_rfl⟩
theorem FN_22 : FnT Tryz.prog 22 Tryz.f22 := ⟨Tryz.func22, by kernel_rfl, by kernel_rfl⟩
theorem FN_26 : FnT Tryz.prog 26 Tryz.f26 := ⟨Tryz.func26, by kernel_rfl, by kernel_rfl⟩
theorem SLH_84 : SlT Tryz.prog 84 56 rH hnil := mkSl (zv := hnil.v) (by_ := 24) (by kernel_rfl) (by kernel_rfl) (by omega) (fun _ _ => rfl)
theorem FN_50 : FnT Tryz.prog 50 Tryz.f50 := ⟨Tryz.func50, by kernel_rfl, by kernel_rfl⟩
theorem FN_16 : FnT Tryz.prog 16 Tryz.f16 := ⟨Tryz.func16, by kernel_rfl, by kernel_rfl⟩
theorem FL_31_0 : FldT Tryz.prog 31 0 0 := fldOf (by kernel_rfl)
theorem FL_31_1 : FldT Tryz.prog 31 1 1 := fldOf (by kernel_rfl)
theorem FL_31_4 : FldT Tryz.prog 31 4 4 := fldOf (by kernel_rfl)
theorem FL_31_5 : FldT Tryz.prog 31 5 5 := fldOf (by kernel_rfl)
theorem FN_17 : FnT Tryz.prog 17 Tryz.f17 := ⟨Tryz.func17, by kernel_rfl, by kernel_rfl⟩
theorem FN_18 : FnT Tryz.prog 18 Tryz.f18 := ⟨Tryz.func18, by kernel_rfl, by kernel_rfl⟩
end Go.Proofs.YtgnfkbaghjmgiaaGreatDoor
