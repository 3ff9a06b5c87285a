/- Closed facts on the types and the functions of this program. -/
import Derived.Test.YtcknmegldjnjjaaChecked
import Derived.Test.YtcknmegldjnjjaaTm
namespace Go.Proofs.Ytcknmegldjnjjaa
open Go Sx
set_option maxRecDepth 100000
theorem folM : Try.prog.follows .mixedOrders = true := by kernel_rfl
theorem SL_22 : SlT Try.prog 22 3 (rI .i64) 0 := mkSl (zv := .int .i64 0) (by_ := 8) (by kernel_rfl) (by kernel_rfl) (by omega) (fun _ _ => rfl)
theorem SL_25 : SlT Try.prog 25 22 (rS (rI .i64)) [] := mkSl (zv := hnil.v) (by_ := 24) (by kernel_rfl) (by kernel_rfl) (by omega) (fun w X => ⟨_, rfl, Imm.nil w X (rI .i64)⟩)
theorem SO_27 : StructOf Try.prog 27 [hnil.v] [(0, 1)] := soOf (by kernel_rfl) (by kernel_rfl)
theorem ZT_27 : ZeroT Try.prog 27 [hnil.v] := mkZ (zv := .agg #[hnil.v]) (by kernel_rfl) rfl
theorem ST_27 : StT Try.prog 27 1 := stOf (by kernel_rfl)
theorem FL_27_0 : FldT Try.prog 27 0 0 := fldOf (by kernel_rfl)
theorem O_25 : OneT Try.prog 25 := mkOne (by kernel_rfl : Try.prog.underlying 25 = some (.slice 22)) rfl (by kernel_rfl)
theorem O_22 : OneT Try.prog 22 := mkOne (by kernel_rfl : Try.prog.underlying 22 = some (.slice 3)) rfl (by kernel_rfl)
theorem O_3 : OneT Try.prog 3 := mkOne (by kernel_rfl : Try.prog.underlying 3 = some (.int .i64)) rfl (by kernel_rfl)
theorem FN_43 : FnT Try.prog 43 Try.f43 := ⟨Try.func43, by kernel_rfl, by kernel_rfl⟩
theorem FN_102 : FnT Try.prog 102 Try.f102 := ⟨Try.func102, by kernel_rfl, by kernel_rfl⟩
theorem FN_85 : FnT Try.prog 85 Try.f85 := ⟨Try.func85, by kernel_rfl, by kernel_rfl⟩
theorem FN_90 : FnT Try.prog 90 Try.f90 := ⟨Try.func90, by kernel_rfl, by kernel_rfl⟩
theorem FN_65 : FnT Try.prog 65 Try.f65 := ⟨Try.func65, by kernel_rfl, by kernel_rfl⟩
theorem FN_44 : FnT Try.prog 44 Try.f44 := ⟨Try.func44, by kernel_rfl, by kernel_rfl⟩
theorem FN_22 : FnT Try.prog 22 Try.f22 := ⟨Try.func22, by kernel_rfl, by kernel_rfl⟩
theorem FN_37 : FnT Try.prog 37 Try.f37 := ⟨Try.func37, by kernel_rfl, by kernel_rfl⟩
theorem SL_54 : SlT Try.prog 54 4 rB false := mkSl (zv := .bool false) (by_ := 1) (by kernel_rfl) (by kernel_rfl) (by omega) (fun _ _ => rfl)
theorem O_4 : OneT Try.prog 4 := mkOne (by kernel_rfl : Try.prog.underlying 4 = some (.bool)) rfl (by kernel_rfl)
theorem FN_40 : FnT Try.prog 40 Try.f40 := ⟨Try.func40, by kernel_rfl, by kernel_rfl⟩
theorem FN_38 : FnT Try.prog 38 Try.f38 := ⟨Try.func38, by kernel_rfl, by kernel_rfl⟩
theorem FN_17 : FnT Try.prog 17 Try.f17 := ⟨Try.func17, by kernel_rfl, by kernel_rfl⟩
theorem FN_12 : FnT Try.prog 12 Try.f12 := ⟨Try.func12, by kernel_rfl, by kernel_rfl⟩
theorem FN_45 : FnT Try.prog 45 Try.f45 := ⟨Try.func45, by kernel_rfl, by kernel_rfl⟩
theorem FN_24 : FnT Try.prog 24 Try.f24 := ⟨Try.func24, by kernel_rfl, by kernel_rfl⟩
theorem FN_61 : FnT Try.prog 61 Try.f61 := ⟨Try.func61, by kernel_rfl, by kernel_rfl⟩
theorem FN_39 : FnT Try.prog 39 Try.f39 := ⟨Try.func39, by kernel_rfl, by kernel_rfl⟩
theorem FN_14 : FnT Try.prog 14 Try.f14 := ⟨Try.func14, by kernel_rfl, by kernel_rfl⟩
theorem FN_9 : FnT Try.prog 9 Try.f9 := ⟨Try.func9, by kernel_rfl, by kernel_rfl⟩
theorem FN_10 : FnT Try.prog 10 Try.f10 := ⟨Try.func10, by kernel_rfl, by kernel_rfl⟩
theorem SLH_53 : SlT Try.prog 53 54 rH hnil := mkSl (zv := hnil.v) (by_ := 24) (by kernel_rfl) (by kernel_rfl) (by omega) (fun _ _ => rfl)
theorem O_54 : OneT Try.prog 54 := mkOne (by kernel_rfl : Try.prog.underlying 54 = some (.slice 4)) rfl (by kernel_rfl)
theorem SL_53 : SlT Try.prog 53 54 (rS rB) [] := mkSl (zv := hnil.v) (by_ := 24) (by kernel_rfl) (by kernel_rfl) (by omega) (fun w X => ⟨_, rfl, Imm.nil w X rB⟩)
theorem FN_36 : FnT Try.prog 36 Try.f36 := ⟨Try.func36, by kernel_rfl, by kernel_rfl⟩
theorem FN_11 : FnT Try.prog 11 Try.f11 := ⟨Try.func11, by kernel_rfl, by kernel_rfl⟩
theorem FN_18 : FnT Try.prog 18 Try.f18 := ⟨Try.func18, by kernel_rfl, by kernel_rfl⟩
theorem FN_19 : FnT Try.prog 19 Try.f19 := ⟨Try.func19, by kernel_rfl, by kernel_rfl⟩
theorem FN_64 : FnT Try.prog 64 Try.f64 := ⟨Try.func64, by kernel_rfl, by kernel_rfl⟩
theorem FN_67 : FnT Try.prog 67 Try.f67 := ⟨Try.func67, by kernel_rfl, by kernel_rfl⟩
theorem FN_47 : FnT Try.prog 47 Try.f47 := ⟨Try.func47, by kernel_rfl, by kernel_rfl⟩
theorem FN_70 : FnT Try.prog 70 Try.f70 := ⟨Try.func70, by kernel_rfl, by kernel_rfl⟩
theorem FN_103 : FnT Try.prog 103 Try.f103 := ⟨Try.func103, by kernel_rfl, by kernel_rfl⟩
theorem FN_91 : FnT Try.prog 91 Try.f91 := ⟨Try.func91, by kernel_rfl, by kernel_rfl⟩
theorem FN_69 : FnT Try.prog 69 Try.f69 := ⟨Try.func69, by kernel_rfl, by kernel_rfl⟩
theorem FN_68 : FnT Try.prog 68 Try.f68 := ⟨Try.func68, by kernel_rfl, by kernel_rfl⟩
theorem FN_49 : FnT Try.prog 49 Try.f49 := ⟨Try.func49, by kernel_rfl, by kernel_rfl⟩
theorem FN_41 : FnT Try.prog 41 Try.f41 := ⟨Try.func41, by kernel_rfl, by kernel_rfl⟩
theorem SLH_69 : SlT Try.prog 69 54 rH hnil := mkSl (zv := hnil.v) (by_ := 24) (by kernel_rfl) (by kernel_rfl) (by omega) (fun _ _ => rfl)
theorem FN_55 : FnT Try.prog 55 Try.f55 := ⟨Try.func55, by kernel_rfl, by kernel_rfl⟩
theorem FN_57 : FnT Try.prog 57 Try.f57 := ⟨Try.func57, by kernel_rfl, by kernel_rfl⟩
theorem SL_69 : SlT Try.prog 69 54 (rS rB) [] := mkSl (zv := hnil.v) (by_ := 24) (by kernel_rfl) (by kernel_rfl) (by omega) (fun w X => ⟨_, rfl, Imm.nil w X rB⟩)
theorem FN_77 : FnT Try.prog 77 Try.f77 := ⟨Try.func77, by kernel_rfl, by kernel_rfl⟩
theorem FN_58 : FnT Try.prog 58 Try.f58 := ⟨Try.func58, by kernel_rfl, by kernel_rfl⟩
theorem FN_42 : FnT Try.prog 42 Try.f42 := ⟨Try.func42, by kernel_rfl, by kernel_rfl⟩
theorem FN_20 : FnT Try.prog 20 Try.f20 := ⟨Try.func20, by kernel_rfl, by kernel_rfl⟩
theorem FN_13 : FnT Try.prog 13 Try.f13 := ⟨Try.func13, by kernel_rfl, by kernel_rfl⟩
theorem FN_31 : FnT Try.prog 31 Try.f31 := ⟨Try.func31, by kernel_rfl, by kernel_rfl⟩
theorem FN_16 : FnT Try.prog 16 Try.f16 := ⟨Try.func16, by kernel_rfl, by kernel_rfl⟩
theorem FN_50 : FnT Try.prog 50 Try.f50 := ⟨Try.func50, by kernel_rfl, by kernel_rfl⟩
theorem FN_51 : FnT Try.prog 51 Try.f51 := ⟨Try.func51, by kernel_rfl, by kernel_rfl⟩
theorem FN_52 : FnT Try.prog 52 Try.f52 := ⟨Try.func52, by kernel_rfl, by kernel_rfl⟩
theorem FN_53 : FnT Try.prog 53 Try.f53 := ⟨Try.func53, by kernel_rfl, by kernel_rfl⟩
theorem FN_30 : FnT Try.prog 30 Try.f30 := ⟨Try.func30, by kernel_rfl, by kernel_rfl⟩
theorem FN_21 : FnT Try.prog 21 Try.f21 := ⟨Try.func21, by kernel_rfl, by kernel_rfl⟩
theorem FN_15 : FnT Try.prog 15 Try.f15 := ⟨Try.func15, by kernel_rfl, by kernel_rfl⟩
theorem FN_23 : FnT Try.prog 23 Try.f23 := ⟨Try.func23, by kernel_rfl, by kernel_rfl⟩
theorem FN_25 : FnT Try.prog 25 Try.f25 := ⟨Try.func25, by kernel_rfl, by kernel_rfl⟩
theorem FN_26 : FnT Try.prog 26 Try.f26 := ⟨Try.func26, by kernel_rfl, by kernel_rfl⟩
theorem FN_27 : FnT Try.prog 27 Try.f27 := ⟨Try.func27, by kernel_rfl, by kernel_rfl⟩
theorem FN_66 : FnT Try.prog 66 Try.f66 := ⟨Try.func66, by kernel_rfl, by kernel_rfl⟩
theorem FN_46 : FnT Try.prog 46 Try.f46 := ⟨Try.func46, by kernel_rfl, by kernel_rfl⟩
theorem FN_28 : FnT Try.prog 28 Try.f28 := ⟨Try.func28, by kernel_rfl, by kernel_rfl⟩
theorem FN_48 : FnT Try.prog 48 Try.f48 := ⟨Try.func48, by kernel_rfl, by kernel_rfl⟩
theorem FN_29 : FnT Try.prog 29 Try.f29 := ⟨Try.func29, by kernel_rfl, by kernel_rfl⟩
end Go.Proofs.Ytcknmegldjnjjaa
