/- Closed facts on the types and the functions of this program. -/
import Derived.Test.YthpeajepbffinaaGreatChecked
import Derived.Test.YthpeajepbffinaaGreatTm
namespace Go.Proofs.YthpeajepbffinaaGreat
open Go Sx
set_option maxRecDepth 100000
theorem folM : Tryz.prog.follows .mixedOrders = true := by kernel_rfl
theorem ST_26 : StT Tryz.prog 26 1 := stOf (by kernel_rfl)
theorem FL_26_0 : FldT Tryz.prog 26 0 0 := fldOf (by kernel_rfl)
theorem O_24 : OneT Tryz.prog 24 := mkOne (by kernel_rfl : Tryz.prog.underlying 24 = some (.slice 22)) rfl (by kernel_rfl)
theorem SL_24 : SlT Tryz.prog 24 22 (rS (rI .i64)) [] := mkSl (zv := hnil.v) (by_ := 24) (by kernel_rfl) (by kernel_rfl) (by omega) (fun w X => ⟨_, rfl, Imm.nil w X (rI .i64)⟩)
theorem O_22 : OneT Tryz.prog 22 := mkOne (by kernel_rfl : Tryz.prog.underlying 22 = some (.slice 3)) rfl (by kernel_rfl)
theorem SL_22 : SlT Tryz.prog 22 3 (rI .i64) 0 := mkSl (zv := .int .i64 0) (by_ := 8) (by kernel_rfl) (by kernel_rfl) (by omega) (fun _ _ => rfl)
theorem FN_25 : FnT Tryz.prog 25 Tryz.f25 := ⟨Tryz.func25, by kernel_rfl, by kernel_rfl⟩
theorem FL_46_0 : FldT Tryz.prog 46 0 0 := fldOf (by kernel_rfl)
theorem FL_46_1 : FldT Tryz.prog 46 1 1 := fldOf (by kernel_rfl)
theorem FL_46_2 : FldT Tryz.prog 46 2 2 := fldOf (by kernel_rfl)
theorem SO_26 : StructOf Tryz.prog 26 [hnil.v] [(0, 1)] := soOf (by kernel_rfl) (by kernel_rfl)
theorem ZT_26 : ZeroT Tryz.prog 26 [hnil.v] := mkZ (zv := .agg #[hnil.v]) (by kernel_rfl) rfl
theorem ZT_46 : ZeroT Tryz.prog 46 [hnil.v, hnil.v, hnil.v] := mkZ (zv := .agg #[hnil.v, hnil.v, hnil.v]) (by kernel_rfl) rfl
theorem O_3 : OneT Tryz.prog 3 := mkOne (by kernel_rfl : Tryz.prog.underlying 3 = some (.int .i64)) rfl (by kernel_rfl)
theorem FN_81 : FnT Tryz.prog 81 Tryz.f81 := ⟨Tryz.func81, by kernel_rfl, by kernel_rfl⟩
theorem FN_120 : FnT Tryz.prog 120 Tryz.f120 := ⟨Tryz.func120, by kernel_rfl, by kernel_rfl⟩
theorem FN_101 : FnT Tryz.prog 101 Tryz.f101 := ⟨Tryz.func101, by kernel_rfl, by kernel_rfl⟩
theorem FN_102 : FnT Tryz.prog 102 Tryz.f102 := ⟨Tryz.func102, by kernel_rfl, by kernel_rfl⟩
theorem FN_84 : FnT Tryz.prog 84 Tryz.f84 := ⟨Tryz.func84, by kernel_rfl, by kernel_rfl⟩
theorem FN_82 : FnT Tryz.prog 82 Tryz.f82 := ⟨Tryz.func82, by kernel_rfl, by kernel_rfl⟩
theorem FN_51 : FnT Tryz.prog 51 Tryz.f51 := ⟨Tryz.func51, by kernel_rfl, by kernel_rfl⟩
theorem ZT_28 : ZeroT Tryz.prog 28 [hnil.v, hnil.v, hnil.v] := mkZ (zv := .agg #[hnil.v, hnil.v, hnil.v]) (by kernel_rfl) rfl
theorem FN_116 : FnT Tryz.prog 116 Tryz.f116 := ⟨Tryz.func116, by kernel_rfl, by kernel_rfl⟩
theorem FN_95 : FnT Tryz.prog 95 Tryz.f95 := ⟨Tryz.func95, by kernel_rfl, by kernel_rfl⟩
theorem FN_72 : FnT Tryz.prog 72 Tryz.f72 := ⟨Tryz.func72, by kernel_rfl, by kernel_rfl⟩
theorem SO_28 : StructOf Tryz.prog 28 [hnil.v, hnil.v, hnil.v] [(0, 1), (1, 1), (2, 1)] := soOf (by kernel_rfl) (by kernel_rfl)
theorem ST_28 : StT Tryz.prog 28 3 := stOf (by kernel_rfl)
theorem FL_28_2 : FldT Tryz.prog 28 2 2 := fldOf (by kernel_rfl)
theorem FN_85 : FnT Tryz.prog 85 Tryz.f85 := ⟨Tryz.func85, by kernel_rfl, by kernel_rfl⟩
theorem FL_28_1 : FldT Tryz.prog 28 1 1 := fldOf (by kernel_rfl)
theorem FN_96 : FnT Tryz.prog 96 Tryz.f96 := ⟨Tryz.func96, by kernel_rfl, by kernel_rfl⟩
theorem FL_28_0 : FldT Tryz.prog 28 0 0 := fldOf (by kernel_rfl)
theorem SL_93 : SlT Tryz.prog 93 4 rB false := mkSl (zv := .bool false) (by_ := 1) (by kernel_rfl) (by kernel_rfl) (by omega) (fun _ _ => rfl)
theorem O_4 : OneT Tryz.prog 4 := mkOne (by kernel_rfl : Tryz.prog.underlying 4 = some (.bool)) rfl (by kernel_rfl)
theorem FN_118 : FnT Tryz.prog 118 Tryz.f118 := ⟨Tryz.func118, by kernel_rfl, by kernel_rfl⟩
theorem FN_117 : FnT Tryz.prog 117 Tryz.f117 := ⟨Tryz.func117, by kernel_rfl, by kernel_rfl⟩
theorem FN_119 : FnT Tryz.prog 119 Tryz.f119 := ⟨Tryz.func119, by kernel_rfl, by kernel_rfl⟩
theorem FN_98 : FnT Tryz.prog 98 Tryz.f98 := ⟨Tryz.func98, by kernel_rfl, by kernel_rfl⟩
theorem FN_97 : FnT Tryz.prog 97 Tryz.f97 := ⟨Tryz.func97, by kernel_rfl, by kernel_rfl⟩
theorem FN_112 : FnT Tryz.prog 112 Tryz.f112 := ⟨Tryz.func112, by kernel_rfl, by kernel_rfl⟩
theorem FN_100 : FnT Tryz.prog 100 Tryz.f100 := ⟨Tryz.func100, by kernel_rfl, by kernel_rfl⟩
theorem FN_99 : FnT Tryz.prog 99 Tryz.f99 := ⟨Tryz.func99, by kernel_rfl, by kernel_rfl⟩
theorem FN_73 : FnT Tryz.prog 73 Tryz.f73 := ⟨Tryz.func73, by kernel_rfl, by kernel_rfl⟩
theorem SLH_24 : SlT Tryz.prog 24 22 rH hnil := mkSl (zv := hnil.v) (by_ := 24) (by kernel_rfl) (by kernel_rfl) (by omega) (fun _ _ => rfl)
theorem FN_83 : FnT Tryz.prog 83 Tryz.f83 := ⟨Tryz.func83, by kernel_rfl, by kernel_rfl⟩
theorem FN_80 : FnT Tryz.prog 80 Tryz.f80 := ⟨Tryz.func80, by kernel_rfl, by kernel_rfl⟩
theorem FN_49 : FnT Tryz.prog 49 Tryz.f49 := ⟨Tryz.func49, by kernel_rfl, by kernel_rfl⟩
theorem FN_52 : FnT Tryz.prog 52 Tryz.f52 := ⟨Tryz.func52, by kernel_rfl, by kernel_rfl⟩
theorem FN_40 : FnT Tryz.prog 40 Tryz.f40 := ⟨Tryz.func40, by kernel_rfl, by kernel_rfl⟩
theorem FN_42 : FnT Tryz.prog 42 Tryz.f42 := ⟨Tryz.func42, by kernel_rfl, by kernel_rfl⟩
theorem ZT_129 : ZeroT Tryz.prog 129 [.int .i64 0, .int .i64 0] := mkZ (zv := .agg #[.int .i64 0, .int .i64 0]) (by kernel_rfl) rfl
theorem AR_129 : ArrT Tryz.prog 129 3 2 (rI .i64) := mkArr (by kernel_rfl) (by kernel_rfl)
theorem FN_74 : FnT Tryz.prog 74 Tryz.f74 := ⟨Tryz.func74, by kernel_rfl, by kernel_rfl⟩
theorem FN_43 : FnT Tryz.prog 43 Tryz.f43 := ⟨Tryz.func43, by kernel_rfl, by kernel_rfl⟩
theorem FN_121 : FnT Tryz.prog 121 Tryz.f121 := ⟨Tryz.func121, by kernel_rfl, by kernel_rfl⟩
theorem FN_103 : FnT Tryz.prog 103 Tryz.f103 := ⟨Tryz.func103, by kernel_rfl, by kernel_rfl⟩
theorem SO_91 : StructOf Tryz.prog 91 [.int .i64 0, .int .i64 0, hnil.v, hnil.v, hnil.v] [(0, 1), (1, 1), (2, 1), (3, 1), (4, 1)] := soOf (by kernel_rfl) (by kernel_rfl)
theorem ZT_91 : ZeroT Tryz.prog 91 [.int .i64 0, .int .i64 0, hnil.v, hnil.v, hnil.v] := mkZ (zv := .agg #[.int .i64 0, .int .i64 0, hnil.v, hnil.v, hnil.v]) (by kernel_rfl) rfl
theorem ST_91 : StT Tryz.prog 91 5 := stOf (by kernel_rfl)
theorem FL_91_3 : FldT Tryz.prog 91 3 3 := fldOf (by kernel_rfl)
theorem FL_91_4 : FldT Tryz.prog 91 4 4 := fldOf (by kernel_rfl)
theorem O_89 : OneT Tryz.prog 89 := mkOne (by kernel_rfl : Tryz.prog.underlying 89 = some (.slice 82)) rfl (by kernel_rfl)
theorem SL_89 : SlT Tryz.prog 89 82 (rI .u64) 0 := mkSl (zv := .int .u64 0) (by_ := 8) (by kernel_rfl) (by kernel_rfl) (by omega) (fun _ _ => rfl)
theorem FL_91_2 : FldT Tryz.prog 91 2 2 := fldOf (by kernel_rfl)
theorem ZT_86 : ZeroT Tryz.prog 86 [hnil.v, hnil.v] := mkZ (zv := .agg #[hnil.v, hnil.v]) (by kernel_rfl) rfl
theorem FL_91_0 : FldT Tryz.prog 91 0 0 := fldOf (by kernel_rfl)
theorem FN_135 : FnT Tryz.prog 135 Tryz.f135 := ⟨Tryz.func135, by kernel_rfl, by kernel_rfl⟩
theorem FL_91_1 : FldT Tryz.prog 91 1 1 := fldOf (by kernel_rfl)
theorem FN_153 : FnT Tryz.prog 153 Tryz.f153 := ⟨Tryz.func153, by kernel_rfl, by kernel_rfl⟩
theorem FN_136 : FnT Tryz.prog 136 Tryz.f136 := ⟨Tryz.func136, by kernel_rfl, by kernel_rfl⟩
theorem O_82 : OneT Tryz.prog 82 := mkOne (by kernel_rfl : Tryz.prog.underlying 82 = some (.int .u64)) rfl (by kernel_rfl)
theorem FN_155 : FnT Tryz.prog 155 Tryz.f155 := ⟨Tryz.func155, by kernel_rfl, by kernel_rfl⟩
theorem FN_139 : FnT Tryz.prog 139 Tryz.f139 := ⟨Tryz.func139, by kernel_rfl, by kernel_rfl⟩
theorem FN_138 : FnT Tryz.prog 138 Tryz.f138 := ⟨Tryz.func138, by kernel_rfl, by kernel_rfl⟩
theorem FN_154 : FnT Tryz.prog 154 Tryz.f154 := ⟨Tryz.func154, by kernel_rfl, by kernel_rfl⟩
theorem FN_137 : FnT Tryz.prog 137 Tryz.f137 := ⟨Tryz.func137, by kernel_rfl, by kernel_rfl⟩
theorem FN_122 : FnT Tryz.prog 122 Tryz.f122 := ⟨Tryz.func122, by kernel_rfl, by kernel_rfl⟩
theorem FN_156 : FnT Tryz.prog 156 Tryz.f156 := ⟨Tryz.func156, by kernel_rfl, by kernel_rfl⟩
theorem FN_157 : FnT Tryz.prog 157 Tryz.f157 := ⟨Tryz.func157, by kernel_rfl, by kernel_rfl⟩
theorem SO_164 : StructOf Tryz.prog 164 [hnil.v, hnil.v, hnil.v, hnil.v] [(0, 1), (1, 1), (2, 1), (3, 1)] := soOf (by kernel_rfl) (by kernel_rfl)
theorem FL_164_3 : FldT Tryz.prog 164 3 3 := fldOf (by kernel_rfl)
theorem O_93 : OneT Tryz.prog 93 := mkOne (by kernel_rfl : Tryz.prog.underlying 93 = some (.slice 4)) rfl (by kernel_rfl)
theorem FL_164_0 : FldT Tryz.prog 164 0 0 := fldOf (by kernel_rfl)
theorem FL_164_2 : FldT Tryz.prog 164 2 2 := fldOf (by kernel_rfl)
theorem FN_158 : FnT Tryz.prog 158 Tryz.f158 := ⟨Tryz.func158, by kernel_rfl, by kernel_rfl⟩
theorem FL_164_1 : FldT Tryz.prog 164 1 1 := fldOf (by kernel_rfl)
theorem FN_140 : FnT Tryz.prog 140 Tryz.f140 := ⟨Tryz.func140, by kernel_rfl, by kernel_rfl⟩
theorem FN_123 : FnT Tryz.prog 123 Tryz.f123 := ⟨Tryz.func123, by kernel_rfl, by kernel_rfl⟩
theorem FN_124 : FnT Tryz.prog 124 Tryz.f124 := ⟨Tryz.func124, by kernel_rfl, by kernel_rfl⟩
theorem SO_86 : StructOf Tryz.prog 86 [hnil.v, hnil.v] [(0, 1), (1, 1)] := soOf (by kernel_rfl) (by kernel_rfl)
theorem ST_86 : StT Tryz.prog 86 2 := stOf (by kernel_rfl)
theorem FN_104 : FnT Tryz.prog 104 Tryz.f104 := ⟨Tryz.func104, by kernel_rfl, by kernel_rfl⟩
theorem FL_86_0 : FldT Tryz.prog 86 0 0 := fldOf (by kernel_rfl)
theorem FL_86_1 : FldT Tryz.prog 86 1 1 := fldOf (by kernel_rfl)
theorem FN_86 : FnT Tryz.prog 86 Tryz.f86 := ⟨Tryz.func86, by kernel_rfl, by kernel_rfl⟩
theorem ST_46 : StT Tryz.prog 46 3 := stOf (by kernel_rfl)
theorem FN_56 : FnT Tryz.prog 56 Tryz.f56 := ⟨Tryz.func56, by kernel_rfl, by kernel_rfl⟩
theorem SO_46 : StructOf Tryz.prog 46 [hnil.v, hnil.v, hnil.v] [(0, 1), (1, 1), (2, 1)] := soOf (by kernel_rfl) (by kernel_rfl)
theorem FN_27 : FnT Tryz.prog 27 Tryz.f27 := ⟨Tryz.func27, by kernel_rfl, by kernel_rfl⟩
theorem FN_13 : FnT Tryz.prog 13 Tryz.f13 := ⟨Tryz.func13, by kernel_rfl, by kernel_rfl⟩
theorem FN_31 : FnT Tryz.prog 31 Tryz.f31 := ⟨Tryz.func31, by kernel_rfl, by kernel_rfl⟩
theorem FN_65 : FnT Tryz.prog 65 Tryz.f65 := ⟨Tryz.func65, by kernel_rfl, by kernel_rfl⟩
theorem FN_32 : FnT Tryz.prog 32 Tryz.f32 := ⟨Tryz.func32, by kernel_rfl, by kernel_rfl⟩
theorem FN_8 : FnT Tryz.prog 8 Tryz.f8 := ⟨Tryz.func8, by kernel_rfl, by kernel_rfl⟩
theorem FN_47 : FnT Tryz.prog 47 Tryz.f47 := ⟨Tryz.func47, by kernel_rfl, by kernel_rfl⟩
theorem FN_48 : FnT Tryz.prog 48 Tryz.f48 := ⟨Tryz.func48, by kernel_rfl, by kernel_rfl⟩
theorem FN_26 : FnT Tryz.prog 26 Tryz.f26 := ⟨Tryz.func26, by kernel_rfl, by kernel_rfl⟩
theorem FN_66 : FnT Tryz.prog 66 Tryz.f66 := ⟨Tryz.func66, by kernel_rfl, by kernel_rfl⟩
theorem FN_37 : FnT Tryz.prog 37 Tryz.f37 := ⟨Tryz.func37, by kernel_rfl, by kernel_rfl⟩
theorem FN_54 : FnT Tryz.prog 54 Tryz.f54 := ⟨Tryz.func54, by kernel_rfl, by kernel_rfl⟩
theorem FN_57 : FnT Tryz.prog 57 Tryz.f57 := ⟨Tryz.func57, by kernel_rfl, by kernel_rfl⟩
theorem FN_55 : FnT Tryz.prog 55 Tryz.f55 := ⟨Tryz.func55, by kernel_rfl, by kernel_rfl⟩
theorem FN_24 : FnT Tryz.prog 24 Tryz.f24 := ⟨Tryz.func24, by kernel_rfl, by kernel_rfl⟩
theorem FN_12 : FnT Tryz.prog 12 Tryz.f12 := ⟨Tryz.func12, by kernel_rfl, by kernel_rfl⟩
theorem FN_75 : FnT Tryz.prog 75 Tryz.f75 := ⟨Tryz.func75, by kernel_rfl, by kernel_rfl⟩
theorem FN_78 : FnT Tryz.prog 78 Tryz.f78 := ⟨Tryz.func78, by kernel_rfl, by kernel_rfl⟩
theorem FN_77 : FnT Tryz.prog 77 Tryz.f77 := ⟨Tryz.func77, by kernel_rfl, by kernel_rfl⟩
theorem FN_79 : FnT Tryz.prog 79 Tryz.f79 := ⟨Tryz.func79, by kernel_rfl, by kernel_rfl⟩
theorem FN_76 : FnT Tryz.prog 76 Tryz.f76 := ⟨Tryz.func76, by kernel_rfl, by kernel_rfl⟩
theorem FN_45 : FnT Tryz.prog 45 Tryz.f45 := ⟨Tryz.func45, by kernel_rfl, by kernel_rfl⟩
theorem FN_44 : FnT Tryz.prog 44 Tryz.f44 := ⟨Tryz.func44, by kernel_rfl, by kernel_rfl⟩
theorem FN_15 : FnT Tryz.prog 15 Tryz.f15 := ⟨Tryz.func15, by kernel_rfl, by kernel_rfl⟩
theorem FN_17 : FnT Tryz.prog 17 Tryz.f17 := ⟨Tryz.func17, by kernel_rfl, by kernel_rfl⟩
theorem FN_58 : FnT Tryz.prog 58 Tryz.f58 := ⟨Tryz.func58, by kernel_rfl, by kernel_rfl⟩
theorem SO_84 : StructOf Tryz.prog 84 [.int .i64 0, .int .i64 0, .int .u64 0] [(0, 1), (1, 1), (2, 1)] := soOf (by kernel_rfl) (by kernel_rfl)
theorem SL_80 : SlT Tryz.prog 80 84 rTi64i64u64 (0, 0, 0) := mkSl (zv := .agg #[.int .i64 0, .int .i64 0, .int .u64 0]) (by_ := 24) (by kernel_rfl) (by kernel_rfl) (by omega) (fun _ _ => rfl)
theorem FL_84_1 : FldT Tryz.prog 84 1 1 := fldOf (by kernel_rfl)
theorem FL_84_0 : FldT Tryz.prog 84 0 0 := fldOf (by kernel_rfl)
theorem FL_84_2 : FldT Tryz.prog 84 2 2 := fldOf (by kernel_rfl)
theorem FN_60 : FnT Tryz.prog 60 Tryz.f60 := ⟨Tryz.func60, by kernel_rfl, by kernel_rfl⟩
theorem FN_125 : FnT Tryz.prog 125 Tryz.f125 := ⟨Tryz.func125, by kernel_rfl, by kernel_rfl⟩
theorem FN_105 : FnT Tryz.prog 105 Tryz.f105 := ⟨Tryz.func105, by kernel_rfl, by kernel_rfl⟩
theorem FN_87 : FnT Tryz.prog 87 Tryz.f87 := ⟨Tryz.func87, by kernel_rfl, by kernel_rfl⟩
theorem FN_106 : FnT Tryz.prog 106 Tryz.f106 := ⟨Tryz.func106, by kernel_rfl, by kernel_rfl⟩
theorem SO_133 : StructOf Tryz.prog 133 [.int .i64 0, .int .i64 0, hnil.v, hnil.v, hnil.v, hnil.v, hnil.v, hnil.v] [(0, 5), (5, 1), (6, 1), (7, 1)] := soOf (by kernel_rfl) (by kernel_rfl)
theorem FL_133_3 : FldT Tryz.prog 133 3 7 := fldOf (by kernel_rfl)
theorem FL_133_0 : FldT Tryz.prog 133 0 0 := fldOf (by kernel_rfl)
theorem FL_133_1 : FldT Tryz.prog 133 1 5 := fldOf (by kernel_rfl)
theorem FN_107 : FnT Tryz.prog 107 Tryz.f107 := ⟨Tryz.func107, by kernel_rfl, by kernel_rfl⟩
theorem FL_133_2 : FldT Tryz.prog 133 2 6 := fldOf (by kernel_rfl)
theorem FN_89 : FnT Tryz.prog 89 Tryz.f89 := ⟨Tryz.func89, by kernel_rfl, by kernel_rfl⟩
theorem FN_88 : FnT Tryz.prog 88 Tryz.f88 := ⟨Tryz.func88, by kernel_rfl, by kernel_rfl⟩
theorem FN_61 : FnT Tryz.prog 61 Tryz.f61 := ⟨Tryz.func61, by kernel_rfl, by kernel_rfl⟩
theorem FN_59 : FnT Tryz.prog 59 Tryz.f59 := ⟨Tryz.func59, by kernel_rfl, by kernel_rfl⟩
theorem FN_28 : FnT Tryz.prog 28 Tryz.f28 := ⟨Tryz.func28, by kernel_rfl, by kernel_rfl⟩
theorem SLH_136 : SlT Tryz.prog 136 93 rH hnil := mkSl (zv := hnil.v) (by_ := 24) (by kernel_rfl) (by kernel_rfl) (by omega) (fun _ _ => rfl)
theorem FN_131 : FnT Tryz.prog 131 Tryz.f131 := ⟨Tryz.func131, by kernel_rfl, by kernel_rfl⟩
theorem FN_127 : FnT Tryz.prog 127 Tryz.f127 := ⟨Tryz.func127, by kernel_rfl, by kernel_rfl⟩
theorem FN_126 : FnT Tryz.prog 126 Tryz.f126 := ⟨Tryz.func126, by kernel_rfl, by kernel_rfl⟩
theorem SO_138 : StructOf Tryz.prog 138 [hnil.v, hnil.v] [(0, 1), (1, 1)] := soOf (by kernel_rfl) (by kernel_rfl)
theorem FN_108 : FnT Tryz.prog 108 Tryz.f108 := ⟨Tryz.func108, by kernel_rfl, by kernel_rfl⟩
theorem FL_138_0 : FldT Tryz.prog 138 0 0 := fldOf (by kernel_rfl)
theorem O_136 : OneT Tryz.prog 136 := mkOne (by kernel_rfl : Tryz.prog.underlying 136 = some (.slice 93)) rfl (by kernel_rfl)
theorem SL_136 : SlT Tryz.prog 136 93 (rS rB) [] := mkSl (zv := hnil.v) (by_ := 24) (by kernel_rfl) (by kernel_rfl) (by omega) (fun w X => ⟨_, rfl, Imm.nil w X rB⟩)
theorem FN_109 : FnT Tryz.prog 109 Tryz.f109 := ⟨Tryz.func109, by kernel_rfl, by kernel_rfl⟩
theorem FL_138_1 : FldT Tryz.prog 138 1 1 := fldOf (by kernel_rfl)
theorem FN_110 : FnT Tryz.prog 110 Tryz.f110 := ⟨Tryz.func110, by kernel_rfl, by kernel_rfl⟩
theorem FN_90 : FnT Tryz.prog 90 Tryz.f90 := ⟨Tryz.func90, by kernel_rfl, by kernel_rfl⟩
theorem FN_111 : FnT Tryz.prog 111 Tryz.f111 := ⟨Tryz.func111, by kernel_rfl, by kernel_rfl⟩
theorem FN_130 : FnT Tryz.prog 130 Tryz.f130 := ⟨Tryz.func130, by kernel_rfl, by kernel_rfl⟩
theorem FN_159 : FnT Tryz.prog 159 Tryz.f159 := ⟨Tryz.func159, by kernel_rfl, by kernel_rfl⟩
theorem FN_141 : FnT Tryz.prog 141 Tryz.f141 := ⟨Tryz.func141, by kernel_rfl, by kernel_rfl⟩
theorem FN_129 : FnT Tryz.prog 129 Tryz.f129 := ⟨Tryz.func129, by kernel_rfl, by kernel_rfl⟩
theorem FN_128 : FnT Tryz.prog 128 Tryz.f128 := ⟨Tryz.func128, by kernel_rfl, by kernel_rfl⟩
theorem FN_113 : FnT Tryz.prog 113 Tryz.f113 := ⟨Tryz.func113, by kernel_rfl, by kernel_rfl⟩
theorem FN_132 : FnT Tryz.prog 132 Tryz.f132 := ⟨Tryz.func132, by kernel_rfl, by kernel_rfl⟩
theorem FN_114 : FnT Tryz.prog 114 Tryz.f114 := ⟨Tryz.func114, by kernel_rfl, by kernel_rfl⟩
theorem FN_91 : FnT Tryz.prog 91 Tryz.f91 := ⟨Tryz.func91, by kernel_rfl, by kernel_rfl⟩
theorem FN_62 : FnT Tryz.prog 62 Tryz.f62 := ⟨Tryz.func62, by kernel_rfl, by kernel_rfl⟩
theorem FN_29 : FnT Tryz.prog 29 Tryz.f29 := ⟨Tryz.func29, by kernel_rfl, by kernel_rfl⟩
theorem SLH_98 : SlT Tryz.prog 98 93 rH hnil := mkSl (zv := hnil.v) (by_ := 24) (by kernel_rfl) (by kernel_rfl) (by omega) (fun _ _ => rfl)
theorem FN_70 : FnT Tryz.prog 70 Tryz.f70 := ⟨Tryz.func70, by kernel_rfl, by kernel_rfl⟩
theorem SO_123 : StructOf Tryz.prog 123 [hnil.v, hnil.v] [(0, 1), (1, 1)] := soOf (by kernel_rfl) (by kernel_rfl)
theorem FN_92 : FnT Tryz.prog 92 Tryz.f92 := ⟨Tryz.func92, by kernel_rfl, by kernel_rfl⟩
theorem FL_123_0 : FldT Tryz.prog 123 0 0 := fldOf (by kernel_rfl)
theorem O_98 : OneT Tryz.prog 98 := mkOne (by kernel_rfl : Tryz.prog.underlying 98 = some (.slice 93)) rfl (by kernel_rfl)
theorem FL_123_1 : FldT Tryz.prog 123 1 1 := fldOf (by kernel_rfl)
theorem FN_93 : FnT Tryz.prog 93 Tryz.f93 := ⟨Tryz.func93, by kernel_rfl, by kernel_rfl⟩
theorem FN_94 : FnT Tryz.prog 94 Tryz.f94 := ⟨Tryz.func94, by kernel_rfl, by kernel_rfl⟩
theorem FN_63 : FnT Tryz.prog 63 Tryz.f63 := ⟨Tryz.func63, by kernel_rfl, by kernel_rfl⟩
theorem FN_68 : FnT Tryz.prog 68 Tryz.f68 := ⟨Tryz.func68, by kernel_rfl, by kernel_rfl⟩
theorem FN_69 : FnT Tryz.prog 69 Tryz.f69 := ⟨Tryz.func69, by kernel_rfl, by kernel_rfl⟩
theorem FN_71 : FnT Tryz.prog 71 Tryz.f71 := ⟨Tryz.func71, by kernel_rfl, by kernel_rfl⟩
theorem SL_98 : SlT Tryz.prog 98 93 (rS rB) [] := mkSl (zv := hnil.v) (by_ := 24) (by kernel_rfl) (by kernel_rfl) (by omega) (fun w X => ⟨_, rfl, Imm.nil w X rB⟩)
theorem FN_67 : FnT Tryz.prog 67 Tryz.f67 := ⟨Tryz.func67, by kernel_rfl, by kernel_rfl⟩
theorem FN_38 : FnT Tryz.prog 38 Tryz.f38 := ⟨Tryz.func38, by kernel_rfl, by kernel_rfl⟩
theorem FN_30 : FnT Tryz.prog 30 Tryz.f30 := ⟨Tryz.func30, by kernel_rfl, by kernel_rfl⟩
theorem FN_64 : FnT Tryz.prog 64 Tryz.f64 := ⟨Tryz.func64, by kernel_rfl, by kernel_rfl⟩
theorem FN_36 : FnT Tryz.prog 36 Tryz.f36 := ⟨Tryz.func36, by kernel_rfl, by kernel_rfl⟩
theorem FN_46 : FnT Tryz.prog 46 Tryz.f46 := ⟨Tryz.func46, by kernel_rfl, by kernel_rfl⟩
theorem FN_33 : FnT Tryz.prog 33 Tryz.f33 := ⟨Tryz.func33, by kernel_rfl, by kernel_rfl⟩
theorem FN_34 : FnT Tryz.prog 34 Tryz.f34 := ⟨Tryz.func34, by kernel_rfl, by kernel_rfl⟩
end Go.Proofs.YthpeajepbffinaaGreat
