/- Closed facts on the types and the functions of this program. -/
import Derived.Test.YthpeajepbffinaaChecked
import Derived.Test.YthpeajepbffinaaTm
namespace Go.Proofs.Ythpeajepbffinaa
open Go Sx
set_option maxRecDepth 100000
theorem folM : Try.prog.follows .mixedOrders = true := by kernel_rfl
theorem SL_22 : SlT Try.prog 22 3 (rI .i64) 0 := mkSl (zv := .int .i64 0) (by_ := 8) (by kernel_rfl) (by kernel_rfl) (by omega) (fun _ _ => rfl)
theorem SL_25 : SlT Try.prog 25 22 (rS (rI .i64)) [] := mkSl (zv := hnil.v) (by_ := 24) (by kernel_rfl) (by kernel_rfl) (by omega) (fun w X => ⟨_, rfl, Imm.nil w X (rI .i64)⟩)
theorem SO_27 : StructOf Try.prog 27 [hnil.v] [(0, 1)] := soOf (by kernel_rfl) (by kernel_rfl)
theorem ZT_27 : ZeroT Try.prog 27 [hnil.v] := mkZ (zv := .agg #[hnil.v]) (by kernel_rfl) rfl
theorem ST_27 : StT Try.prog 27 1 := stOf (by kernel_rfl)
theorem ZT_38 : ZeroT Try.prog 38 [hnil.v, hnil.v, hnil.v] := mkZ (zv := .agg #[hnil.v, hnil.v, hnil.v]) (by kernel_rfl) rfl
theorem FL_27_0 : FldT Try.prog 27 0 0 := fldOf (by kernel_rfl)
theorem O_25 : OneT Try.prog 25 := mkOne (by kernel_rfl : Try.prog.underlying 25 = some (.slice 22)) rfl (by kernel_rfl)
theorem O_22 : OneT Try.prog 22 := mkOne (by kernel_rfl : Try.prog.underlying 22 = some (.slice 3)) rfl (by kernel_rfl)
theorem O_3 : OneT Try.prog 3 := mkOne (by kernel_rfl : Try.prog.underlying 3 = some (.int .i64)) rfl (by kernel_rfl)
theorem FN_47 : FnT Try.prog 47 Try.f47 := ⟨Try.func47, by kernel_rfl, by kernel_rfl⟩
theorem FN_88 : FnT Try.prog 88 Try.f88 := ⟨Try.func88, by kernel_rfl, by kernel_rfl⟩
theorem FN_77 : FnT Try.prog 77 Try.f77 := ⟨Try.func77, by kernel_rfl, by kernel_rfl⟩
theorem FN_78 : FnT Try.prog 78 Try.f78 := ⟨Try.func78, by kernel_rfl, by kernel_rfl⟩
theorem FN_64 : FnT Try.prog 64 Try.f64 := ⟨Try.func64, by kernel_rfl, by kernel_rfl⟩
theorem FN_48 : FnT Try.prog 48 Try.f48 := ⟨Try.func48, by kernel_rfl, by kernel_rfl⟩
theorem FN_30 : FnT Try.prog 30 Try.f30 := ⟨Try.func30, by kernel_rfl, by kernel_rfl⟩
theorem ZT_29 : ZeroT Try.prog 29 [hnil.v, hnil.v, hnil.v] := mkZ (zv := .agg #[hnil.v, hnil.v, hnil.v]) (by kernel_rfl) rfl
theorem FN_80 : FnT Try.prog 80 Try.f80 := ⟨Try.func80, by kernel_rfl, by kernel_rfl⟩
theorem FN_65 : FnT Try.prog 65 Try.f65 := ⟨Try.func65, by kernel_rfl, by kernel_rfl⟩
theorem FN_46 : FnT Try.prog 46 Try.f46 := ⟨Try.func46, by kernel_rfl, by kernel_rfl⟩
theorem SO_29 : StructOf Try.prog 29 [hnil.v, hnil.v, hnil.v] [(0, 1), (1, 1), (2, 1)] := soOf (by kernel_rfl) (by kernel_rfl)
theorem ST_29 : StT Try.prog 29 3 := stOf (by kernel_rfl)
theorem FL_29_2 : FldT Try.prog 29 2 2 := fldOf (by kernel_rfl)
theorem FN_49 : FnT Try.prog 49 Try.f49 := ⟨Try.func49, by kernel_rfl, by kernel_rfl⟩
theorem FL_29_1 : FldT Try.prog 29 1 1 := fldOf (by kernel_rfl)
theorem FN_68 : FnT Try.prog 68 Try.f68 := ⟨Try.func68, by kernel_rfl, by kernel_rfl⟩
theorem FL_29_0 : FldT Try.prog 29 0 0 := fldOf (by kernel_rfl)
theorem SL_67 : SlT Try.prog 67 4 rB false := mkSl (zv := .bool false) (by_ := 1) (by kernel_rfl) (by kernel_rfl) (by omega) (fun _ _ => rfl)
theorem O_4 : OneT Try.prog 4 := mkOne (by kernel_rfl : Try.prog.underlying 4 = some (.bool)) rfl (by kernel_rfl)
theorem FN_85 : FnT Try.prog 85 Try.f85 := ⟨Try.func85, by kernel_rfl, by kernel_rfl⟩
theorem FN_84 : FnT Try.prog 84 Try.f84 := ⟨Try.func84, by kernel_rfl, by kernel_rfl⟩
theorem FN_86 : FnT Try.prog 86 Try.f86 := ⟨Try.func86, by kernel_rfl, by kernel_rfl⟩
theorem FN_70 : FnT Try.prog 70 Try.f70 := ⟨Try.func70, by kernel_rfl, by kernel_rfl⟩
theorem FN_69 : FnT Try.prog 69 Try.f69 := ⟨Try.func69, by kernel_rfl, by kernel_rfl⟩
theorem FN_87 : FnT Try.prog 87 Try.f87 := ⟨Try.func87, by kernel_rfl, by kernel_rfl⟩
theorem FN_72 : FnT Try.prog 72 Try.f72 := ⟨Try.func72, by kernel_rfl, by kernel_rfl⟩
theorem FN_71 : FnT Try.prog 71 Try.f71 := ⟨Try.func71, by kernel_rfl, by kernel_rfl⟩
theorem FN_51 : FnT Try.prog 51 Try.f51 := ⟨Try.func51, by kernel_rfl, by kernel_rfl⟩
theorem SLH_25 : SlT Try.prog 25 22 rH hnil := mkSl (zv := hnil.v) (by_ := 24) (by kernel_rfl) (by kernel_rfl) (by omega) (fun _ _ => rfl)
theorem FN_63 : FnT Try.prog 63 Try.f63 := ⟨Try.func63, by kernel_rfl, by kernel_rfl⟩
theorem FN_61 : FnT Try.prog 61 Try.f61 := ⟨Try.func61, by kernel_rfl, by kernel_rfl⟩
theorem FN_35 : FnT Try.prog 35 Try.f35 := ⟨Try.func35, by kernel_rfl, by kernel_rfl⟩
theorem FN_42 : FnT Try.prog 42 Try.f42 := ⟨Try.func42, by kernel_rfl, by kernel_rfl⟩
theorem FN_28 : FnT Try.prog 28 Try.f28 := ⟨Try.func28, by kernel_rfl, by kernel_rfl⟩
theorem FN_41 : FnT Try.prog 41 Try.f41 := ⟨Try.func41, by kernel_rfl, by kernel_rfl⟩
theorem ZT_111 : ZeroT Try.prog 111 [.int .i64 0, .int .i64 0] := mkZ (zv := .agg #[.int .i64 0, .int .i64 0]) (by kernel_rfl) rfl
theorem AR_111 : ArrT Try.prog 111 3 2 (rI .i64) := mkArr (by kernel_rfl) (by kernel_rfl)
theorem FN_52 : FnT Try.prog 52 Try.f52 := ⟨Try.func52, by kernel_rfl, by kernel_rfl⟩
theorem FN_32 : FnT Try.prog 32 Try.f32 := ⟨Try.func32, by kernel_rfl, by kernel_rfl⟩
theorem FN_81 : FnT Try.prog 81 Try.f81 := ⟨Try.func81, by kernel_rfl, by kernel_rfl⟩
theorem FN_66 : FnT Try.prog 66 Try.f66 := ⟨Try.func66, by kernel_rfl, by kernel_rfl⟩
theorem SO_51 : StructOf Try.prog 51 [.int .i64 0, .int .i64 0, hnil.v, hnil.v, hnil.v] [(0, 1), (1, 1), (2, 1), (3, 1), (4, 1)] := soOf (by kernel_rfl) (by kernel_rfl)
theorem ZT_51 : ZeroT Try.prog 51 [.int .i64 0, .int .i64 0, hnil.v, hnil.v, hnil.v] := mkZ (zv := .agg #[.int .i64 0, .int .i64 0, hnil.v, hnil.v, hnil.v]) (by kernel_rfl) rfl
theorem ST_51 : StT Try.prog 51 5 := stOf (by kernel_rfl)
theorem FL_51_3 : FldT Try.prog 51 3 3 := fldOf (by kernel_rfl)
theorem FL_51_4 : FldT Try.prog 51 4 4 := fldOf (by kernel_rfl)
theorem O_49 : OneT Try.prog 49 := mkOne (by kernel_rfl : Try.prog.underlying 49 = some (.slice 45)) rfl (by kernel_rfl)
theorem SL_49 : SlT Try.prog 49 45 (rI .u64) 0 := mkSl (zv := .int .u64 0) (by_ := 8) (by kernel_rfl) (by kernel_rfl) (by omega) (fun _ _ => rfl)
theorem FL_51_2 : FldT Try.prog 51 2 2 := fldOf (by kernel_rfl)
theorem ZT_106 : ZeroT Try.prog 106 [hnil.v, hnil.v] := mkZ (zv := .agg #[hnil.v, hnil.v]) (by kernel_rfl) rfl
theorem FL_51_0 : FldT Try.prog 51 0 0 := fldOf (by kernel_rfl)
theorem FN_53 : FnT Try.prog 53 Try.f53 := ⟨Try.func53, by kernel_rfl, by kernel_rfl⟩
theorem FL_51_1 : FldT Try.prog 51 1 1 := fldOf (by kernel_rfl)
theorem FN_73 : FnT Try.prog 73 Try.f73 := ⟨Try.func73, by kernel_rfl, by kernel_rfl⟩
theorem FN_54 : FnT Try.prog 54 Try.f54 := ⟨Try.func54, by kernel_rfl, by kernel_rfl⟩
theorem O_45 : OneT Try.prog 45 := mkOne (by kernel_rfl : Try.prog.underlying 45 = some (.int .u64)) rfl (by kernel_rfl)
theorem FN_75 : FnT Try.prog 75 Try.f75 := ⟨Try.func75, by kernel_rfl, by kernel_rfl⟩
theorem FN_57 : FnT Try.prog 57 Try.f57 := ⟨Try.func57, by kernel_rfl, by kernel_rfl⟩
theorem FN_56 : FnT Try.prog 56 Try.f56 := ⟨Try.func56, by kernel_rfl, by kernel_rfl⟩
theorem FN_74 : FnT Try.prog 74 Try.f74 := ⟨Try.func74, by kernel_rfl, by kernel_rfl⟩
theorem FN_55 : FnT Try.prog 55 Try.f55 := ⟨Try.func55, by kernel_rfl, by kernel_rfl⟩
theorem FN_33 : FnT Try.prog 33 Try.f33 := ⟨Try.func33, by kernel_rfl, by kernel_rfl⟩
theorem FN_58 : FnT Try.prog 58 Try.f58 := ⟨Try.func58, by kernel_rfl, by kernel_rfl⟩
theorem FN_59 : FnT Try.prog 59 Try.f59 := ⟨Try.func59, by kernel_rfl, by kernel_rfl⟩
theorem SO_75 : StructOf Try.prog 75 [hnil.v, hnil.v, hnil.v, hnil.v] [(0, 1), (1, 1), (2, 1), (3, 1)] := soOf (by kernel_rfl) (by kernel_rfl)
theorem FL_75_3 : FldT Try.prog 75 3 3 := fldOf (by kernel_rfl)
theorem O_67 : OneT Try.prog 67 := mkOne (by kernel_rfl : Try.prog.underlying 67 = some (.slice 4)) rfl (by kernel_rfl)
theorem FL_75_0 : FldT Try.prog 75 0 0 := fldOf (by kernel_rfl)
theorem FL_75_2 : FldT Try.prog 75 2 2 := fldOf (by kernel_rfl)
theorem FN_60 : FnT Try.prog 60 Try.f60 := ⟨Try.func60, by kernel_rfl, by kernel_rfl⟩
theorem FL_75_1 : FldT Try.prog 75 1 1 := fldOf (by kernel_rfl)
theorem FN_34 : FnT Try.prog 34 Try.f34 := ⟨Try.func34, by kernel_rfl, by kernel_rfl⟩
theorem FN_82 : FnT Try.prog 82 Try.f82 := ⟨Try.func82, by kernel_rfl, by kernel_rfl⟩
theorem FN_83 : FnT Try.prog 83 Try.f83 := ⟨Try.func83, by kernel_rfl, by kernel_rfl⟩
theorem SO_106 : StructOf Try.prog 106 [hnil.v, hnil.v] [(0, 1), (1, 1)] := soOf (by kernel_rfl) (by kernel_rfl)
theorem ST_106 : StT Try.prog 106 2 := stOf (by kernel_rfl)
theorem FN_67 : FnT Try.prog 67 Try.f67 := ⟨Try.func67, by kernel_rfl, by kernel_rfl⟩
theorem FL_106_0 : FldT Try.prog 106 0 0 := fldOf (by kernel_rfl)
theorem FL_106_1 : FldT Try.prog 106 1 1 := fldOf (by kernel_rfl)
theorem FN_50 : FnT Try.prog 50 Try.f50 := ⟨Try.func50, by kernel_rfl, by kernel_rfl⟩
theorem FL_38_2 : FldT Try.prog 38 2 2 := fldOf (by kernel_rfl)
theorem FL_38_0 : FldT Try.prog 38 0 0 := fldOf (by kernel_rfl)
theorem FL_38_1 : FldT Try.prog 38 1 1 := fldOf (by kernel_rfl)
theorem ST_38 : StT Try.prog 38 3 := stOf (by kernel_rfl)
theorem FN_31 : FnT Try.prog 31 Try.f31 := ⟨Try.func31, by kernel_rfl, by kernel_rfl⟩
theorem SO_38 : StructOf Try.prog 38 [hnil.v, hnil.v, hnil.v] [(0, 1), (1, 1), (2, 1)] := soOf (by kernel_rfl) (by kernel_rfl)
theorem FN_13 : FnT Try.prog 13 Try.f13 := ⟨Try.func13, by kernel_rfl, by kernel_rfl⟩
theorem FN_44 : FnT Try.prog 44 Try.f44 := ⟨Try.func44, by kernel_rfl, by kernel_rfl⟩
theorem FN_26 : FnT Try.prog 26 Try.f26 := ⟨Try.func26, by kernel_rfl, by kernel_rfl⟩
theorem FN_45 : FnT Try.prog 45 Try.f45 := ⟨Try.func45, by kernel_rfl, by kernel_rfl⟩
theorem FN_27 : FnT Try.prog 27 Try.f27 := ⟨Try.func27, by kernel_rfl, by kernel_rfl⟩
theorem FN_7 : FnT Try.prog 7 Try.f7 := ⟨Try.func7, by kernel_rfl, by kernel_rfl⟩
theorem FN_8 : FnT Try.prog 8 Try.f8 := ⟨Try.func8, by kernel_rfl, by kernel_rfl⟩
theorem SLH_66 : SlT Try.prog 66 67 rH hnil := mkSl (zv := hnil.v) (by_ := 24) (by kernel_rfl) (by kernel_rfl) (by omega) (fun _ _ => rfl)
theorem SL_66 : SlT Try.prog 66 67 (rS rB) [] := mkSl (zv := hnil.v) (by_ := 24) (by kernel_rfl) (by kernel_rfl) (by omega) (fun w X => ⟨_, rfl, Imm.nil w X rB⟩)
theorem FN_29 : FnT Try.prog 29 Try.f29 := ⟨Try.func29, by kernel_rfl, by kernel_rfl⟩
theorem FN_12 : FnT Try.prog 12 Try.f12 := ⟨Try.func12, by kernel_rfl, by kernel_rfl⟩
theorem FN_15 : FnT Try.prog 15 Try.f15 := ⟨Try.func15, by kernel_rfl, by kernel_rfl⟩
theorem FN_43 : FnT Try.prog 43 Try.f43 := ⟨Try.func43, by kernel_rfl, by kernel_rfl⟩
theorem FN_23 : FnT Try.prog 23 Try.f23 := ⟨Try.func23, by kernel_rfl, by kernel_rfl⟩
theorem FN_14 : FnT Try.prog 14 Try.f14 := ⟨Try.func14, by kernel_rfl, by kernel_rfl⟩
theorem FN_17 : FnT Try.prog 17 Try.f17 := ⟨Try.func17, by kernel_rfl, by kernel_rfl⟩
theorem FN_16 : FnT Try.prog 16 Try.f16 := ⟨Try.func16, by kernel_rfl, by kernel_rfl⟩
theorem SO_47 : StructOf Try.prog 47 [.int .i64 0, .int .i64 0, .int .u64 0] [(0, 1), (1, 1), (2, 1)] := soOf (by kernel_rfl) (by kernel_rfl)
theorem SL_43 : SlT Try.prog 43 47 rTi64i64u64 (0, 0, 0) := mkSl (zv := .agg #[.int .i64 0, .int .i64 0, .int .u64 0]) (by_ := 24) (by kernel_rfl) (by kernel_rfl) (by omega) (fun _ _ => rfl)
theorem FN_11 : FnT Try.prog 11 Try.f11 := ⟨Try.func11, by kernel_rfl, by kernel_rfl⟩
theorem FL_47_1 : FldT Try.prog 47 1 1 := fldOf (by kernel_rfl)
theorem FL_47_0 : FldT Try.prog 47 0 0 := fldOf (by kernel_rfl)
theorem FL_47_2 : FldT Try.prog 47 2 2 := fldOf (by kernel_rfl)
theorem FN_19 : FnT Try.prog 19 Try.f19 := ⟨Try.func19, by kernel_rfl, by kernel_rfl⟩
theorem FN_18 : FnT Try.prog 18 Try.f18 := ⟨Try.func18, by kernel_rfl, by kernel_rfl⟩
end Go.Proofs.Ythpeajepbffinaa
