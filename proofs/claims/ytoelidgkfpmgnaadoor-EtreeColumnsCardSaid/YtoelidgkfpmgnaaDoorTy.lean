/- Closed facts on the types and the functions of this program. -/
import Derived.Test.YtoelidgkfpmgnaaDoorChecked
import Derived.Test.YtoelidgkfpmgnaaDoorTm
namespace Go.Proofs.YtoelidgkfpmgnaaDoor
open Go Sx
set_option maxRecDepth 100000
theorem folM : Tryd.prog.follows .mixedOrders = true := by kernel_rfl
theorem SL_22 : SlT Tryd.prog 22 3 (rI .i64) 0 := mkSl (zv := .int .i64 0) (by_ := 8) (by kernel_rfl) (by kernel_rfl) (by omega) (fun _ _ => rfl)
theorem SL_32 : SlT Tryd.prog 32 22 (rS (rI .i64)) [] := mkSl (zv := hnil.v) (by_ := 24) (by kernel_rfl) (by kernel_rfl) (by omega) (fun w X => ⟨_, rfl, Imm.nil w X (rI .i64)⟩)
theorem SO_34 : StructOf Tryd.prog 34 [hnil.v] [(0, 1)] := soOf (by kernel_rfl) (by kernel_rfl)
theorem ZT_34 : ZeroT Tryd.prog 34 [hnil.v] := mkZ (zv := .agg #[hnil.v]) (by kernel_rfl) rfl
theorem ST_34 : StT Tryd.prog 34 1 := stOf (by kernel_rfl)
theorem FL_34_0 : FldT Tryd.prog 34 0 0 := fldOf (by kernel_rfl)
theorem O_32 : OneT Tryd.prog 32 := mkOne (by kernel_rfl : Tryd.prog.underlying 32 = some (.slice 22)) rfl (by kernel_rfl)
theorem O_22 : OneT Tryd.prog 22 := mkOne (by kernel_rfl : Tryd.prog.underlying 22 = some (.slice 3)) rfl (by kernel_rfl)
theorem O_3 : OneT Tryd.prog 3 := mkOne (by kernel_rfl : Tryd.prog.underlying 3 = some (.int .i64)) rfl (by kernel_rfl)
theorem FN_35 : FnT Tryd.prog 35 Tryd.f35 := ⟨Tryd.func35, by kernel_rfl, by kernel_rfl⟩
theorem FN_69 : FnT Tryd.prog 69 Tryd.f69 := ⟨Tryd.func69, by kernel_rfl, by kernel_rfl⟩
theorem FN_58 : FnT Tryd.prog 58 Tryd.f58 := ⟨Tryd.func58, by kernel_rfl, by kernel_rfl⟩
theorem FN_59 : FnT Tryd.prog 59 Tryd.f59 := ⟨Tryd.func59, by kernel_rfl, by kernel_rfl⟩
theorem FN_47 : FnT Tryd.prog 47 Tryd.f47 := ⟨Tryd.func47, by kernel_rfl, by kernel_rfl⟩
theorem FN_36 : FnT Tryd.prog 36 Tryd.f36 := ⟨Tryd.func36, by kernel_rfl, by kernel_rfl⟩
theorem FN_22 : FnT Tryd.prog 22 Tryd.f22 := ⟨Tryd.func22, by kernel_rfl, by kernel_rfl⟩
theorem SO_56 : StructOf Tryd.prog 56 [hnil.v, hnil.v] [(0, 1), (1, 1)] := soOf (by kernel_rfl) (by kernel_rfl)
theorem FL_56_0 : FldT Tryd.prog 56 0 0 := fldOf (by kernel_rfl)
theorem FL_56_1 : FldT Tryd.prog 56 1 1 := fldOf (by kernel_rfl)
theorem FN_16 : FnT Tryd.prog 16 Tryd.f16 := ⟨Tryd.func16, by kernel_rfl, by kernel_rfl⟩
theorem FN_18 : FnT Tryd.prog 18 Tryd.f18 := ⟨Tryd.func18, by kernel_rfl, by kernel_rfl⟩
theorem FN_9 : FnT Tryd.prog 9 Tryd.f9 := ⟨Tryd.func9, by kernel_rfl, by kernel_rfl⟩
theorem FN_12 : FnT Tryd.prog 12 Tryd.f12 := ⟨Tryd.func12, by kernel_rfl, by kernel_rfl⟩
theorem SLH_32 : SlT Tryd.prog 32 22 rH hnil := mkSl (zv := hnil.v) (by_ := 24) (by kernel_rfl) (by kernel_rfl) (by omega) (fun _ _ => rfl)
theorem FN_23 : FnT Tryd.prog 23 Tryd.f23 := ⟨Tryd.func23, by kernel_rfl, by kernel_rfl⟩
theorem ZT_32 : ZeroT Tryd.prog 32 [hnil.v] := mkZ (zv := hnil.v) (by kernel_rfl) rfl
theorem ZT_22 : ZeroT Tryd.prog 22 [hnil.v] := mkZ (zv := hnil.v) (by kernel_rfl) rfl
theorem ZT_64 : ZeroT Tryd.prog 64 [.nilFunc] := mkZ (zv := .nilFunc) (by kernel_rfl) rfl
theorem O_64 : OneT Tryd.prog 64 := mkOne (by kernel_rfl : Tryd.prog.underlying 64 = some (.func #[3] #[] false)) rfl (by kernel_rfl)
theorem FN_24 : FnT Tryd.prog 24 Tryd.f24 := ⟨Tryd.func24, by kernel_rfl, by kernel_rfl⟩
theorem FN_11 : FnT Tryd.prog 11 Tryd.f11 := ⟨Tryd.func11, by kernel_rfl, by kernel_rfl⟩
theorem FN_10 : FnT Tryd.prog 10 Tryd.f10 := ⟨Tryd.func10, by kernel_rfl, by kernel_rfl⟩
theorem FN_4 : FnT Tryd.prog 4 Tryd.f4 := ⟨Tryd.func4, by kernel_rfl, by kernel_rfl⟩
theorem FN_6 : FnT Tryd.prog 6 Tryd.f6 := ⟨Tryd.func6, by kernel_rfl, by kernel_rfl⟩
theorem ZT_26 : ZeroT Tryd.prog 26 [.int .i64 0, .int .i64 0, hnil.v, hnil.v, hnil.v] := mkZ (zv := .agg #[.int .i64 0, .int .i64 0, hnil.v, hnil.v, hnil.v]) (by kernel_rfl) rfl
theorem ZT_70 : ZeroT Tryd.prog 70 [.bool false, .bool false, hnil.v, .int .i64 0] := mkZ (zv := .agg #[.bool false, .bool false, hnil.v, .int .i64 0]) (by kernel_rfl) rfl
theorem ZT_68 : ZeroT Tryd.prog 68 [.bool false, hnil.v] := mkZ (zv := .agg #[.bool false, hnil.v]) (by kernel_rfl) rfl
theorem SL_66 : SlT Tryd.prog 66 100 (rI .u32) 0 := mkSl (zv := .int .u32 0) (by_ := 4) (by kernel_rfl) (by kernel_rfl) (by omega) (fun _ _ => rfl)
theorem O_100 : OneT Tryd.prog 100 := mkOne (by kernel_rfl : Tryd.prog.underlying 100 = some (.int .u32)) rfl (by kernel_rfl)
theorem FN_60 : FnT Tryd.prog 60 Tryd.f60 := ⟨Tryd.func60, by kernel_rfl, by kernel_rfl⟩
theorem SO_68 : StructOf Tryd.prog 68 [.bool false, hnil.v] [(0, 1), (1, 1)] := soOf (by kernel_rfl) (by kernel_rfl)
theorem ST_68 : StT Tryd.prog 68 2 := stOf (by kernel_rfl)
theorem FN_55 : FnT Tryd.prog 55 Tryd.f55 := ⟨Tryd.func55, by kernel_rfl, by kernel_rfl⟩
theorem FN_43 : FnT Tryd.prog 43 Tryd.f43 := ⟨Tryd.func43, by kernel_rfl, by kernel_rfl⟩
theorem FL_68_0 : FldT Tryd.prog 68 0 0 := fldOf (by kernel_rfl)
theorem O_4 : OneT Tryd.prog 4 := mkOne (by kernel_rfl : Tryd.prog.underlying 4 = some (.bool)) rfl (by kernel_rfl)
theorem FL_68_1 : FldT Tryd.prog 68 1 1 := fldOf (by kernel_rfl)
theorem O_66 : OneT Tryd.prog 66 := mkOne (by kernel_rfl : Tryd.prog.underlying 66 = some (.slice 100)) rfl (by kernel_rfl)
theorem FN_48 : FnT Tryd.prog 48 Tryd.f48 := ⟨Tryd.func48, by kernel_rfl, by kernel_rfl⟩
theorem SO_70 : StructOf Tryd.prog 70 [.bool false, .bool false, hnil.v, .int .i64 0] [(0, 1), (1, 2), (3, 1)] := soOf (by kernel_rfl) (by kernel_rfl)
theorem ST_70 : StT Tryd.prog 70 4 := stOf (by kernel_rfl)
theorem FN_41 : FnT Tryd.prog 41 Tryd.f41 := ⟨Tryd.func41, by kernel_rfl, by kernel_rfl⟩
theorem FN_68 : FnT Tryd.prog 68 Tryd.f68 := ⟨Tryd.func68, by kernel_rfl, by kernel_rfl⟩
theorem FN_56 : FnT Tryd.prog 56 Tryd.f56 := ⟨Tryd.func56, by kernel_rfl, by kernel_rfl⟩
theorem FN_40 : FnT Tryd.prog 40 Tryd.f40 := ⟨Tryd.func40, by kernel_rfl, by kernel_rfl⟩
theorem FN_65 : FnT Tryd.prog 65 Tryd.f65 := ⟨Tryd.func65, by kernel_rfl, by kernel_rfl⟩
theorem FN_66 : FnT Tryd.prog 66 Tryd.f66 := ⟨Tryd.func66, by kernel_rfl, by kernel_rfl⟩
theorem FN_70 : FnT Tryd.prog 70 Tryd.f70 := ⟨Tryd.func70, by kernel_rfl, by kernel_rfl⟩
theorem FN_71 : FnT Tryd.prog 71 Tryd.f71 := ⟨Tryd.func71, by kernel_rfl, by kernel_rfl⟩
theorem FN_72 : FnT Tryd.prog 72 Tryd.f72 := ⟨Tryd.func72, by kernel_rfl, by kernel_rfl⟩
theorem FN_73 : FnT Tryd.prog 73 Tryd.f73 := ⟨Tryd.func73, by kernel_rfl, by kernel_rfl⟩
theorem FN_64 : FnT Tryd.prog 64 Tryd.f64 := ⟨Tryd.func64, by kernel_rfl, by kernel_rfl⟩
theorem FN_67 : FnT Tryd.prog 67 Tryd.f67 := ⟨Tryd.func67, by kernel_rfl, by kernel_rfl⟩
theorem FN_52 : FnT Tryd.prog 52 Tryd.f52 := ⟨Tryd.func52, by kernel_rfl, by kernel_rfl⟩
theorem FN_57 : FnT Tryd.prog 57 Tryd.f57 := ⟨Tryd.func57, by kernel_rfl, by kernel_rfl⟩
theorem FN_61 : FnT Tryd.prog 61 Tryd.f61 := ⟨Tryd.func61, by kernel_rfl, by kernel_rfl⟩
theorem FN_49 : FnT Tryd.prog 49 Tryd.f49 := ⟨Tryd.func49, by kernel_rfl, by kernel_rfl⟩
theorem FN_42 : FnT Tryd.prog 42 Tryd.f42 := ⟨Tryd.func42, by kernel_rfl, by kernel_rfl⟩
theorem FN_27 : FnT Tryd.prog 27 Tryd.f27 := ⟨Tryd.func27, by kernel_rfl, by kernel_rfl⟩
theorem FL_70_0 : FldT Tryd.prog 70 0 0 := fldOf (by kernel_rfl)
theorem FL_70_1 : FldT Tryd.prog 70 1 1 := fldOf (by kernel_rfl)
theorem FL_70_2 : FldT Tryd.prog 70 2 3 := fldOf (by kernel_rfl)
theorem FN_37 : FnT Tryd.prog 37 Tryd.f37 := ⟨Tryd.func37, by kernel_rfl, by kernel_rfl⟩
theorem FN_38 : FnT Tryd.prog 38 Tryd.f38 := ⟨Tryd.func38, by kernel_rfl, by kernel_rfl⟩
theorem FN_26 : FnT Tryd.prog 26 Tryd.f26 := ⟨Tryd.func26, by kernel_rfl, by kernel_rfl⟩
theorem FN_54 : FnT Tryd.prog 54 Tryd.f54 := ⟨Tryd.func54, by kernel_rfl, by kernel_rfl⟩
theorem FN_50 : FnT Tryd.prog 50 Tryd.f50 := ⟨Tryd.func50, by kernel_rfl, by kernel_rfl⟩
theorem FN_62 : FnT Tryd.prog 62 Tryd.f62 := ⟨Tryd.func62, by kernel_rfl, by kernel_rfl⟩
theorem FN_63 : FnT Tryd.prog 63 Tryd.f63 := ⟨Tryd.func63, by kernel_rfl, by kernel_rfl⟩
theorem FN_51 : FnT Tryd.prog 51 Tryd.f51 := ⟨Tryd.func51, by kernel_rfl, by kernel_rfl⟩
theorem FN_53 : FnT Tryd.prog 53 Tryd.f53 := ⟨Tryd.func53, by kernel_rfl, by kernel_rfl⟩
theorem FN_39 : FnT Tryd.prog 39 Tryd.f39 := ⟨Tryd.func39, by kernel_rfl, by kernel_rfl⟩
theorem FN_25 : FnT Tryd.prog 25 Tryd.f25 := ⟨Tryd.func25, by kernel_rfl, by kernel_rfl⟩
theorem FN_13 : FnT Tryd.prog 13 Tryd.f13 := ⟨Tryd.func13, by kernel_rfl, by kernel_rfl⟩
theorem SO_47 : StructOf Tryd.prog 47 [.int .i64 0, .int .i64 0, .int .u64 0] [(0, 1), (1, 1), (2, 1)] := soOf (by kernel_rfl) (by kernel_rfl)
theorem SL_42 : SlT Tryd.prog 42 47 rTi64i64u64 (0, 0, 0) := mkSl (zv := .agg #[.int .i64 0, .int .i64 0, .int .u64 0]) (by_ := 24) (by kernel_rfl) (by kernel_rfl) (by omega) (fun _ _ => rfl)
theorem SO_26 : StructOf Tryd.prog 26 [.int .i64 0, .int .i64 0, hnil.v, hnil.v, hnil.v] [(0, 1), (1, 1), (2, 1), (3, 1), (4, 1)] := soOf (by kernel_rfl) (by kernel_rfl)
theorem ST_26 : StT Tryd.prog 26 5 := stOf (by kernel_rfl)
theorem FL_47_1 : FldT Tryd.prog 47 1 1 := fldOf (by kernel_rfl)
theorem FL_47_0 : FldT Tryd.prog 47 0 0 := fldOf (by kernel_rfl)
theorem FL_26_3 : FldT Tryd.prog 26 3 3 := fldOf (by kernel_rfl)
theorem FL_26_4 : FldT Tryd.prog 26 4 4 := fldOf (by kernel_rfl)
theorem O_24 : OneT Tryd.prog 24 := mkOne (by kernel_rfl : Tryd.prog.underlying 24 = some (.slice 44)) rfl (by kernel_rfl)
theorem FL_47_2 : FldT Tryd.prog 47 2 2 := fldOf (by kernel_rfl)
theorem O_44 : OneT Tryd.prog 44 := mkOne (by kernel_rfl : Tryd.prog.underlying 44 = some (.int .u64)) rfl (by kernel_rfl)
theorem SL_24 : SlT Tryd.prog 24 44 (rI .u64) 0 := mkSl (zv := .int .u64 0) (by_ := 8) (by kernel_rfl) (by kernel_rfl) (by omega) (fun _ _ => rfl)
theorem FL_26_2 : FldT Tryd.prog 26 2 2 := fldOf (by kernel_rfl)
theorem FN_14 : FnT Tryd.prog 14 Tryd.f14 := ⟨Tryd.func14, by kernel_rfl, by kernel_rfl⟩
theorem FN_5 : FnT Tryd.prog 5 Tryd.f5 := ⟨Tryd.func5, by kernel_rfl, by kernel_rfl⟩
theorem FL_26_0 : FldT Tryd.prog 26 0 0 := fldOf (by kernel_rfl)
theorem FN_28 : FnT Tryd.prog 28 Tryd.f28 := ⟨Tryd.func28, by kernel_rfl, by kernel_rfl⟩
theorem FL_26_1 : FldT Tryd.prog 26 1 1 := fldOf (by kernel_rfl)
theorem FN_44 : FnT Tryd.prog 44 Tryd.f44 := ⟨Tryd.func44, by kernel_rfl, by kernel_rfl⟩
theorem FN_29 : FnT Tryd.prog 29 Tryd.f29 := ⟨Tryd.func29, by kernel_rfl, by kernel_rfl⟩
theorem FN_46 : FnT Tryd.prog 46 Tryd.f46 := ⟨Tryd.func46, by kernel_rfl, by kernel_rfl⟩
theorem FN_32 : FnT Tryd.prog 32 Tryd.f32 := ⟨Tryd.func32, by kernel_rfl, by kernel_rfl⟩
theorem FN_31 : FnT Tryd.prog 31 Tryd.f31 := ⟨Tryd.func31, by kernel_rfl, by kernel_rfl⟩
theorem FN_45 : FnT Tryd.prog 45 Tryd.f45 := ⟨Tryd.func45, by kernel_rfl, by kernel_rfl⟩
theorem FN_30 : FnT Tryd.prog 30 Tryd.f30 := ⟨Tryd.func30, by kernel_rfl, by kernel_rfl⟩
theorem FN_15 : FnT Tryd.prog 15 Tryd.f15 := ⟨Tryd.func15, by kernel_rfl, by kernel_rfl⟩
theorem FN_33 : FnT Tryd.prog 33 Tryd.f33 := ⟨Tryd.func33, by kernel_rfl, by kernel_rfl⟩
theorem FN_17 : FnT Tryd.prog 17 Tryd.f17 := ⟨Tryd.func17, by kernel_rfl, by kernel_rfl⟩
theorem ST_47 : StT Tryd.prog 47 3 := stOf (by kernel_rfl)
theorem ZT_47 : ZeroT Tryd.prog 47 [.int .i64 0, .int .i64 0, .int .u64 0] := mkZ (zv := .agg #[.int .i64 0, .int .i64 0, .int .u64 0]) (by kernel_rfl) rfl
theorem FN_7 : FnT Tryd.prog 7 Tryd.f7 := ⟨Tryd.func7, by kernel_rfl, by kernel_rfl⟩
theorem SLH_58 : SlT Tryd.prog 58 77 rH hnil := mkSl (zv := hnil.v) (by_ := 24) (by kernel_rfl) (by kernel_rfl) (by omega) (fun _ _ => rfl)
theorem SL_77 : SlT Tryd.prog 77 4 rB false := mkSl (zv := .bool false) (by_ := 1) (by kernel_rfl) (by kernel_rfl) (by omega) (fun _ _ => rfl)
theorem O_77 : OneT Tryd.prog 77 := mkOne (by kernel_rfl : Tryd.prog.underlying 77 = some (.slice 4)) rfl (by kernel_rfl)
theorem FN_19 : FnT Tryd.prog 19 Tryd.f19 := ⟨Tryd.func19, by kernel_rfl, by kernel_rfl⟩
theorem FN_20 : FnT Tryd.prog 20 Tryd.f20 := ⟨Tryd.func20, by kernel_rfl, by kernel_rfl⟩
theorem SL_58 : SlT Tryd.prog 58 77 (rS rB) [] := mkSl (zv := hnil.v) (by_ := 24) (by kernel_rfl) (by kernel_rfl) (by omega) (fun w X => ⟨_, rfl, Imm.nil w X rB⟩)
theorem FN_34 : FnT Tryd.prog 34 Tryd.f34 := ⟨Tryd.func34, by kernel_rfl, by kernel_rfl⟩
theorem FN_21 : FnT Tryd.prog 21 Tryd.f21 := ⟨Tryd.func21, by kernel_rfl, by kernel_rfl⟩
theorem FN_8 : FnT Tryd.prog 8 Tryd.f8 := ⟨Tryd.func8, by kernel_rfl, by kernel_rfl⟩
end Go.Proofs.YtoelidgkfpmgnaaDoor
