/- Closed facts on the types and the functions of this program. -/
import Derived.Test.YtgnfkbaghjmgiaaGreatChecked
import Derived.Test.YtgnfkbaghjmgiaaGreatTm
namespace Go.Proofs.YtgnfkbaghjmgiaaGreat
open Go Sx
set_option maxRecDepth 100000
theorem folM : Tryz.prog.follows .mixedOrders = true := by kernel_rfl
theorem ST_25 : StT Tryz.prog 25 5 := stOf (by kernel_rfl)
theorem FL_25_3 : FldT Tryz.prog 25 3 3 := fldOf (by kernel_rfl)
theorem O_22 : OneT Tryz.prog 22 := mkOne (by kernel_rfl : Tryz.prog.underlying 22 = some (.slice 3)) rfl (by kernel_rfl)
theorem SL_22 : SlT Tryz.prog 22 3 (rI .i64) 0 := mkSl (zv := .int .i64 0) (by_ := 8) (by kernel_rfl) (by kernel_rfl) (by omega) (fun _ _ => rfl)
theorem FL_25_4 : FldT Tryz.prog 25 4 4 := fldOf (by kernel_rfl)
theorem O_23 : OneT Tryz.prog 23 := mkOne (by kernel_rfl : Tryz.prog.underlying 23 = some (.slice 44)) rfl (by kernel_rfl)
theorem SL_23 : SlT Tryz.prog 23 44 (rI .u64) 0 := mkSl (zv := .int .u64 0) (by_ := 8) (by kernel_rfl) (by kernel_rfl) (by omega) (fun _ _ => rfl)
theorem FL_25_2 : FldT Tryz.prog 25 2 2 := fldOf (by kernel_rfl)
theorem FL_25_0 : FldT Tryz.prog 25 0 0 := fldOf (by kernel_rfl)
theorem O_3 : OneT Tryz.prog 3 := mkOne (by kernel_rfl : Tryz.prog.underlying 3 = some (.int .i64)) rfl (by kernel_rfl)
theorem FL_25_1 : FldT Tryz.prog 25 1 1 := fldOf (by kernel_rfl)
theorem FN_4 : FnT Tryz.prog 4 Tryz.f4 := ⟨Tryz.func4, by kernel_rfl, by kernel_rfl⟩
theorem FL_27_0 : FldT Tryz.prog 27 0 0 := fldOf (by kernel_rfl)
theorem FL_27_1 : FldT Tryz.prog 27 1 1 := fldOf (by kernel_rfl)
theorem FL_27_2 : FldT Tryz.prog 27 2 2 := fldOf (by kernel_rfl)
theorem SO_25 : StructOf Tryz.prog 25 [.int .i64 0, .int .i64 0, hnil.v, hnil.v, hnil.v] [(0, 1), (1, 1), (2, 1), (3, 1), (4, 1)] := soOf (by kernel_rfl) (by kernel_rfl)
theorem ZT_25 : ZeroT Tryz.prog 25 [.int .i64 0, .int .i64 0, hnil.v, hnil.v, hnil.v] := mkZ (zv := .agg #[.int .i64 0, .int .i64 0, hnil.v, hnil.v, hnil.v]) (by kernel_rfl) rfl
theorem ZT_27 : ZeroT Tryz.prog 27 [hnil.v, hnil.v, hnil.v] := mkZ (zv := .agg #[hnil.v, hnil.v, hnil.v]) (by kernel_rfl) rfl
theorem FN_60 : FnT Tryz.prog 60 Tryz.f60 := ⟨Tryz.func60, by kernel_rfl, by kernel_rfl⟩
theorem FN_95 : FnT Tryz.prog 95 Tryz.f95 := ⟨Tryz.func95, by kernel_rfl, by kernel_rfl⟩
theorem FN_76 : FnT Tryz.prog 76 Tryz.f76 := ⟨Tryz.func76, by kernel_rfl, by kernel_rfl⟩
theorem FN_82 : FnT Tryz.prog 82 Tryz.f82 := ⟨Tryz.func82, by kernel_rfl, by kernel_rfl⟩
theorem FN_61 : FnT Tryz.prog 61 Tryz.f61 := ⟨Tryz.func61, by kernel_rfl, by kernel_rfl⟩
theorem O_44 : OneT Tryz.prog 44 := mkOne (by kernel_rfl : Tryz.prog.underlying 44 = some (.int .u64)) rfl (by kernel_rfl)
theorem FN_84 : FnT Tryz.prog 84 Tryz.f84 := ⟨Tryz.func84, by kernel_rfl, by kernel_rfl⟩
theorem FN_64 : FnT Tryz.prog 64 Tryz.f64 := ⟨Tryz.func64, by kernel_rfl, by kernel_rfl⟩
theorem FN_63 : FnT Tryz.prog 63 Tryz.f63 := ⟨Tryz.func63, by kernel_rfl, by kernel_rfl⟩
theorem FN_83 : FnT Tryz.prog 83 Tryz.f83 := ⟨Tryz.func83, by kernel_rfl, by kernel_rfl⟩
theorem FN_62 : FnT Tryz.prog 62 Tryz.f62 := ⟨Tryz.func62, by kernel_rfl, by kernel_rfl⟩
theorem FN_46 : FnT Tryz.prog 46 Tryz.f46 := ⟨Tryz.func46, by kernel_rfl, by kernel_rfl⟩
theorem FN_28 : FnT Tryz.prog 28 Tryz.f28 := ⟨Tryz.func28, by kernel_rfl, by kernel_rfl⟩
theorem SL_62 : SlT Tryz.prog 62 22 (rS (rI .i64)) [] := mkSl (zv := hnil.v) (by_ := 24) (by kernel_rfl) (by kernel_rfl) (by omega) (fun w X => ⟨_, rfl, Imm.nil w X (rI .i64)⟩)
theorem FN_66 : FnT Tryz.prog 66 Tryz.f66 := ⟨Tryz.func66, by kernel_rfl, by kernel_rfl⟩
theorem FN_67 : FnT Tryz.prog 67 Tryz.f67 := ⟨Tryz.func67, by kernel_rfl, by kernel_rfl⟩
theorem SO_84 : StructOf Tryz.prog 84 [hnil.v, hnil.v, hnil.v, hnil.v] [(0, 1), (1, 1), (2, 1), (3, 1)] := soOf (by kernel_rfl) (by kernel_rfl)
theorem SL_50 : SlT Tryz.prog 50 4 rB false := mkSl (zv := .bool false) (by_ := 1) (by kernel_rfl) (by kernel_rfl) (by omega) (fun _ _ => rfl)
theorem FL_84_3 : FldT Tryz.prog 84 3 3 := fldOf (by kernel_rfl)
theorem O_50 : OneT Tryz.prog 50 := mkOne (by kernel_rfl : Tryz.prog.underlying 50 = some (.slice 4)) rfl (by kernel_rfl)
theorem FL_84_0 : FldT Tryz.prog 84 0 0 := fldOf (by kernel_rfl)
theorem O_62 : OneT Tryz.prog 62 := mkOne (by kernel_rfl : Tryz.prog.underlying 62 = some (.slice 22)) rfl (by kernel_rfl)
theorem O_4 : OneT Tryz.prog 4 := mkOne (by kernel_rfl : Tryz.prog.underlying 4 = some (.bool)) rfl (by kernel_rfl)
theorem FL_84_2 : FldT Tryz.prog 84 2 2 := fldOf (by kernel_rfl)
theorem FN_68 : FnT Tryz.prog 68 Tryz.f68 := ⟨Tryz.func68, by kernel_rfl, by kernel_rfl⟩
theorem FL_84_1 : FldT Tryz.prog 84 1 1 := fldOf (by kernel_rfl)
theorem FN_49 : FnT Tryz.prog 49 Tryz.f49 := ⟨Tryz.func49, by kernel_rfl, by kernel_rfl⟩
theorem FN_29 : FnT Tryz.prog 29 Tryz.f29 := ⟨Tryz.func29, by kernel_rfl, by kernel_rfl⟩
theorem FN_54 : FnT Tryz.prog 54 Tryz.f54 := ⟨Tryz.func54, by kernel_rfl, by kernel_rfl⟩
theorem FN_30 : FnT Tryz.prog 30 Tryz.f30 := ⟨Tryz.func30, by kernel_rfl, by kernel_rfl⟩
theorem SO_27 : StructOf Tryz.prog 27 [hnil.v, hnil.v, hnil.v] [(0, 1), (1, 1), (2, 1)] := soOf (by kernel_rfl) (by kernel_rfl)
theorem ST_27 : StT Tryz.prog 27 3 := stOf (by kernel_rfl)
theorem SLH_62 : SlT Tryz.prog 62 22 rH hnil := mkSl (zv := hnil.v) (by_ := 24) (by kernel_rfl) (by kernel_rfl) (by omega) (fun _ _ => rfl)
theorem SO_76 : StructOf Tryz.prog 76 [.int .i64 0, .int .i64 0, .int .u64 0] [(0, 1), (1, 1), (2, 1)] := soOf (by kernel_rfl) (by kernel_rfl)
theorem SL_73 : SlT Tryz.prog 73 76 rTi64i64u64 (0, 0, 0) := mkSl (zv := .agg #[.int .i64 0, .int .i64 0, .int .u64 0]) (by_ := 24) (by kernel_rfl) (by kernel_rfl) (by omega) (fun _ _ => rfl)
theorem FN_47 : FnT Tryz.prog 47 Tryz.f47 := ⟨Tryz.func47, by kernel_rfl, by kernel_rfl⟩
theorem FN_39 : FnT Tryz.prog 39 Tryz.f39 := ⟨Tryz.func39, by kernel_rfl, by kernel_rfl⟩
theorem ST_76 : StT Tryz.prog 76 3 := stOf (by kernel_rfl)
theorem ZT_76 : ZeroT Tryz.prog 76 [.int .i64 0, .int .i64 0, .int .u64 0] := mkZ (zv := .agg #[.int .i64 0, .int .i64 0, .int .u64 0]) (by kernel_rfl) rfl
theorem FL_76_0 : FldT Tryz.prog 76 0 0 := fldOf (by kernel_rfl)
theorem FL_76_1 : FldT Tryz.prog 76 1 1 := fldOf (by kernel_rfl)
theorem FN_31 : FnT Tryz.prog 31 Tryz.f31 := ⟨Tryz.func31, by kernel_rfl, by kernel_rfl⟩
theorem SL_70 : SlT Tryz.prog 70 50 (rS rB) [] := mkSl (zv := hnil.v) (by_ := 24) (by kernel_rfl) (by kernel_rfl) (by omega) (fun w X => ⟨_, rfl, Imm.nil w X rB⟩)
theorem FN_55 : FnT Tryz.prog 55 Tryz.f55 := ⟨Tryz.func55, by kernel_rfl, by kernel_rfl⟩
theorem FN_32 : FnT Tryz.prog 32 Tryz.f32 := ⟨Tryz.func32, by kernel_rfl, by kernel_rfl⟩
theorem FN_33 : FnT Tryz.prog 33 Tryz.f33 := ⟨Tryz.func33, by kernel_rfl, by kernel_rfl⟩
theorem FN_34 : FnT Tryz.prog 34 Tryz.f34 := ⟨Tryz.func34, by kernel_rfl, by kernel_rfl⟩
theorem FN_9 : FnT Tryz.prog 9 Tryz.f9 := ⟨Tryz.func9, by kernel_rfl, by kernel_rfl⟩
theorem ZT_32 : ZeroT Tryz.prog 32 [hnil.v, hnil.v, hnil.v, hnil.v, hnil.v, hnil.v] := mkZ (zv := .agg #[hnil.v, hnil.v, hnil.v, hnil.v, hnil.v, hnil.v]) (by kernel_rfl) rfl
theorem FN_85 : FnT Tryz.prog 85 Tryz.f85 := ⟨Tryz.func85, by kernel_rfl, by kernel_rfl⟩
theorem FN_89 : FnT Tryz.prog 89 Tryz.f89 := ⟨Tryz.func89, by kernel_rfl, by kernel_rfl⟩
theorem FN_88 : FnT Tryz.prog 88 Tryz.f88 := ⟨Tryz.func88, by kernel_rfl, by kernel_rfl⟩
theorem FN_87 : FnT Tryz.prog 87 Tryz.f87 := ⟨Tryz.func87, by kernel_rfl, by kernel_rfl⟩
theorem FN_100 : FnT Tryz.prog 100 Tryz.f100 := ⟨Tryz.func100, by kernel_rfl, by kernel_rfl⟩
theorem FN_103 : FnT Tryz.prog 103 Tryz.f103 := ⟨Tryz.func103, by kernel_rfl, by kernel_rfl⟩
theorem FN_102 : FnT Tryz.prog 102 Tryz.f102 := ⟨Tryz.func102, by kernel_rfl, by kernel_rfl⟩
theorem FN_101 : FnT Tryz.prog 101 Tryz.f101 := ⟨Tryz.func101, by kernel_rfl, by kernel_rfl⟩
theorem FN_98 : FnT Tryz.prog 98 Tryz.f98 := ⟨Tryz.func98, by kernel_rfl, by kernel_rfl⟩
theorem FN_86 : FnT Tryz.prog 86 Tryz.f86 := ⟨Tryz.func86, by kernel_rfl, by kernel_rfl⟩
theorem FN_65 : FnT Tryz.prog 65 Tryz.f65 := ⟨Tryz.func65, by kernel_rfl, by kernel_rfl⟩
theorem FL_76_2 : FldT Tryz.prog 76 2 2 := fldOf (by kernel_rfl)
theorem FN_48 : FnT Tryz.prog 48 Tryz.f48 := ⟨Tryz.func48, by kernel_rfl, by kernel_rfl⟩
theorem FN_19 : FnT Tryz.prog 19 Tryz.f19 := ⟨Tryz.func19, by kernel_rfl, by kernel_rfl⟩
theorem FN_20 : FnT Tryz.prog 20 Tryz.f20 := ⟨Tryz.func20, by kernel_rfl, by kernel_rfl⟩
theorem FN_21 : FnT Tryz.prog 21 Tryz.f21 := ⟨Tryz.func21, by kernel_rfl, by kernel_rfl⟩
theorem FN_22 : FnT Tryz.prog 22 Tryz.f22 := ⟨Tryz.func22, by kernel_rfl, by kernel_rfl⟩
theorem SO_32 : StructOf Tryz.prog 32 [hnil.v, hnil.v, hnil.v, hnil.v, hnil.v, hnil.v] [(0, 1), (1, 1), (2, 1), (3, 1), (4, 1), (5, 1)] := soOf (by kernel_rfl) (by kernel_rfl)
theorem ST_32 : StT Tryz.prog 32 6 := stOf (by kernel_rfl)
theorem FN_7 : FnT Tryz.prog 7 Tryz.f7 := ⟨Tryz.func7, by kernel_rfl, by kernel_rfl⟩
theorem FN_16 : FnT Tryz.prog 16 Tryz.f16 := ⟨Tryz.func16, by kernel_rfl, by kernel_rfl⟩
theorem FL_32_3 : FldT Tryz.prog 32 3 3 := fldOf (by kernel_rfl)
theorem FN_97 : FnT Tryz.prog 97 Tryz.f97 := ⟨Tryz.func97, by kernel_rfl, by kernel_rfl⟩
theorem FN_81 : FnT Tryz.prog 81 Tryz.f81 := ⟨Tryz.func81, by kernel_rfl, by kernel_rfl⟩
theorem FN_59 : FnT Tryz.prog 59 Tryz.f59 := ⟨Tryz.func59, by kernel_rfl, by kernel_rfl⟩
theorem FN_37 : FnT Tryz.prog 37 Tryz.f37 := ⟨Tryz.func37, by kernel_rfl, by kernel_rfl⟩
theorem FN_38 : FnT Tryz.prog 38 Tryz.f38 := ⟨Tryz.func38, by kernel_rfl, by kernel_rfl⟩
theorem FN_13 : FnT Tryz.prog 13 Tryz.f13 := ⟨Tryz.func13, by kernel_rfl, by kernel_rfl⟩
theorem FN_5 : FnT Tryz.prog 5 Tryz.f5 := ⟨Tryz.func5, by kernel_rfl, by kernel_rfl⟩
theorem FN_17 : FnT Tryz.prog 17 Tryz.f17 := ⟨Tryz.func17, by kernel_rfl, by kernel_rfl⟩
theorem FN_18 : FnT Tryz.prog 18 Tryz.f18 := ⟨Tryz.func18, by kernel_rfl, by kernel_rfl⟩
theorem FN_6 : FnT Tryz.prog 6 Tryz.f6 := ⟨Tryz.func6, by kernel_rfl, by kernel_rfl⟩
theorem FN_69 : FnT Tryz.prog 69 Tryz.f69 := ⟨Tryz.func69, by kernel_rfl, by kernel_rfl⟩
theorem FN_50 : FnT Tryz.prog 50 Tryz.f50 := ⟨Tryz.func50, by kernel_rfl, by kernel_rfl⟩
theorem FN_23 : FnT Tryz.prog 23 Tryz.f23 := ⟨Tryz.func23, by kernel_rfl, by kernel_rfl⟩
theorem FN_43 : FnT Tryz.prog 43 Tryz.f43 := ⟨Tryz.func43, by kernel_rfl, by kernel_rfl⟩
theorem FN_51 : FnT Tryz.prog 51 Tryz.f51 := ⟨Tryz.func51, by kernel_rfl, by kernel_rfl⟩
theorem FN_24 : FnT Tryz.prog 24 Tryz.f24 := ⟨Tryz.func24, by kernel_rfl, by kernel_rfl⟩
theorem FN_52 : FnT Tryz.prog 52 Tryz.f52 := ⟨Tryz.func52, by kernel_rfl, by kernel_rfl⟩
theorem SO_87 : StructOf Tryz.prog 87 [.int .i64 0, .int .i64 0, hnil.v, hnil.v, hnil.v, hnil.v, hnil.v, hnil.v] [(0, 5), (5, 1), (6, 1), (7, 1)] := soOf (by kernel_rfl) (by kernel_rfl)
theorem FL_87_3 : FldT Tryz.prog 87 3 7 := fldOf (by kernel_rfl)
theorem FL_87_0 : FldT Tryz.prog 87 0 0 := fldOf (by kernel_rfl)
theorem FL_87_1 : FldT Tryz.prog 87 1 5 := fldOf (by kernel_rfl)
theorem FN_53 : FnT Tryz.prog 53 Tryz.f53 := ⟨Tryz.func53, by kernel_rfl, by kernel_rfl⟩
theorem FL_87_2 : FldT Tryz.prog 87 2 6 := fldOf (by kernel_rfl)
theorem FN_26 : FnT Tryz.prog 26 Tryz.f26 := ⟨Tryz.func26, by kernel_rfl, by kernel_rfl⟩
theorem FN_25 : FnT Tryz.prog 25 Tryz.f25 := ⟨Tryz.func25, by kernel_rfl, by kernel_rfl⟩
theorem FN_27 : FnT Tryz.prog 27 Tryz.f27 := ⟨Tryz.func27, by kernel_rfl, by kernel_rfl⟩
theorem FL_32_2 : FldT Tryz.prog 32 2 2 := fldOf (by kernel_rfl)
theorem FN_8 : FnT Tryz.prog 8 Tryz.f8 := ⟨Tryz.func8, by kernel_rfl, by kernel_rfl⟩
theorem FN_35 : FnT Tryz.prog 35 Tryz.f35 := ⟨Tryz.func35, by kernel_rfl, by kernel_rfl⟩
theorem FN_58 : FnT Tryz.prog 58 Tryz.f58 := ⟨Tryz.func58, by kernel_rfl, by kernel_rfl⟩
theorem SLH_70 : SlT Tryz.prog 70 50 rH hnil := mkSl (zv := hnil.v) (by_ := 24) (by kernel_rfl) (by kernel_rfl) (by omega) (fun _ _ => rfl)
theorem FN_36 : FnT Tryz.prog 36 Tryz.f36 := ⟨Tryz.func36, by kernel_rfl, by kernel_rfl⟩
theorem FN_10 : FnT Tryz.prog 10 Tryz.f10 := ⟨Tryz.func10, by kernel_rfl, by kernel_rfl⟩
theorem FL_32_0 : FldT Tryz.prog 32 0 0 := fldOf (by kernel_rfl)
theorem FL_32_1 : FldT Tryz.prog 32 1 1 := fldOf (by kernel_rfl)
theorem FL_32_4 : FldT Tryz.prog 32 4 4 := fldOf (by kernel_rfl)
theorem FL_32_5 : FldT Tryz.prog 32 5 5 := fldOf (by kernel_rfl)
theorem FN_40 : FnT Tryz.prog 40 Tryz.f40 := ⟨Tryz.func40, by kernel_rfl, by kernel_rfl⟩
theorem FN_41 : FnT Tryz.prog 41 Tryz.f41 := ⟨Tryz.func41, by kernel_rfl, by kernel_rfl⟩
theorem FN_42 : FnT Tryz.prog 42 Tryz.f42 := ⟨Tryz.func42, by kernel_rfl, by kernel_rfl⟩
theorem FN_44 : FnT Tryz.prog 44 Tryz.f44 := ⟨Tryz.func44, by kernel_rfl, by kernel_rfl⟩
theorem FN_45 : FnT Tryz.prog 45 Tryz.f45 := ⟨Tryz.func45, by kernel_rfl, by kernel_rfl⟩
theorem FN_11 : FnT Tryz.prog 11 Tryz.f11 := ⟨Tryz.func11, by kernel_rfl, by kernel_rfl⟩
theorem FN_12 : FnT Tryz.prog 12 Tryz.f12 := ⟨Tryz.func12, by kernel_rfl, by kernel_rfl⟩
theorem FN_14 : FnT Tryz.prog 14 Tryz.f14 := ⟨Tryz.func14, by kernel_rfl, by kernel_rfl⟩
theorem FN_15 : FnT Tryz.prog 15 Tryz.f15 := ⟨Tryz.func15, by kernel_rfl, by kernel_rfl⟩
end Go.Proofs.YtgnfkbaghjmgiaaGreat
