/- Closed facts on the types and the functions of this program. -/
import Derived.Test.YtnfamnfdndaekaaGreatDoorChecked
import Derived.Test.YtnfamnfdndaekaaGreatDoorTm
namespace Go.Proofs.YtnfamnfdndaekaaGreatDoor
open Go Sx
set_option maxRecDepth 100000
theorem folM : Tryz.prog.follows .mixedOrders = true := by kernel_rfl
theorem ST_27 : StT Tryz.prog 27 2 := stOf (by kernel_rfl)
theorem FL_27_1 : FldT Tryz.prog 27 1 1 := fldOf (by kernel_rfl)
theorem O_25 : OneT Tryz.prog 25 := mkOne (by kernel_rfl : Tryz.prog.underlying 25 = some (.slice 88)) rfl (by kernel_rfl)
theorem SL_25 : SlT Tryz.prog 25 88 (rI .u32) 0 := mkSl (zv := .int .u32 0) (by_ := 4) (by kernel_rfl) (by kernel_rfl) (by omega) (fun _ _ => rfl)
theorem FN_18 : FnT Tryz.prog 18 Tryz.f18 := ⟨Tryz.func18, by kernel_rfl, by kernel_rfl⟩
theorem FN_24 : FnT Tryz.prog 24 Tryz.f24 := ⟨Tryz.func24, by kernel_rfl, by kernel_rfl⟩
theorem FN_62 : FnT Tryz.prog 62 Tryz.f62 := ⟨Tryz.func62, by kernel_rfl, by kernel_rfl⟩
theorem FN_78 : FnT Tryz.prog 78 Tryz.f78 := ⟨Tryz.func78, by kernel_rfl, by kernel_rfl⟩
theorem FN_64 : FnT Tryz.prog 64 Tryz.f64 := ⟨Tryz.func64, by kernel_rfl, by kernel_rfl⟩
theorem FN_28 : FnT Tryz.prog 28 Tryz.f28 := ⟨Tryz.func28, by kernel_rfl, by kernel_rfl⟩
theorem SL_22 : SlT Tryz.prog 22 3 (rI .i64) 0 := mkSl (zv := .int .i64 0) (by_ := 8) (by kernel_rfl) (by kernel_rfl) (by omega) (fun _ _ => rfl)
theorem SL_52 : SlT Tryz.prog 52 22 (rS (rI .i64)) [] := mkSl (zv := hnil.v) (by_ := 24) (by kernel_rfl) (by kernel_rfl) (by omega) (fun w X => ⟨_, rfl, Imm.nil w X (rI .i64)⟩)
theorem O_22 : OneT Tryz.prog 22 := mkOne (by kernel_rfl : Tryz.prog.underlying 22 = some (.slice 3)) rfl (by kernel_rfl)
theorem FN_94 : FnT Tryz.prog 94 Tryz.f94 := ⟨Tryz.func94, by kernel_rfl, by kernel_rfl⟩
theorem ZT_3 : ZeroT Tryz.prog 3 [.int .i64 0] := mkZ (zv := .int .i64 0) (by kernel_rfl) rfl
theorem O_3 : OneT Tryz.prog 3 := mkOne (by kernel_rfl : Tryz.prog.underlying 3 = some (.int .i64)) rfl (by kernel_rfl)
theorem FN_123 : FnT Tryz.prog 123 Tryz.f123 := ⟨Tryz.func123, by kernel_rfl, by kernel_rfl⟩
theorem FN_119 : FnT Tryz.prog 119 Tryz.f119 := ⟨Tryz.func119, by kernel_rfl, by kernel_rfl⟩
theorem FN_122 : FnT Tryz.prog 122 Tryz.f122 := ⟨Tryz.func122, by kernel_rfl, by kernel_rfl⟩
theorem FN_83 : FnT Tryz.prog 83 Tryz.f83 := ⟨Tryz.func83, by kernel_rfl, by kernel_rfl⟩
theorem SLH_52 : SlT Tryz.prog 52 22 rH hnil := mkSl (zv := hnil.v) (by_ := 24) (by kernel_rfl) (by kernel_rfl) (by omega) (fun _ _ => rfl)
theorem FN_82 : FnT Tryz.prog 82 Tryz.f82 := ⟨Tryz.func82, by kernel_rfl, by kernel_rfl⟩
theorem FN_120 : FnT Tryz.prog 120 Tryz.f120 := ⟨Tryz.func120, by kernel_rfl, by kernel_rfl⟩
theorem FN_121 : FnT Tryz.prog 121 Tryz.f121 := ⟨Tryz.func121, by kernel_rfl, by kernel_rfl⟩
theorem FN_81 : FnT Tryz.prog 81 Tryz.f81 := ⟨Tryz.func81, by kernel_rfl, by kernel_rfl⟩
theorem FN_44 : FnT Tryz.prog 44 Tryz.f44 := ⟨Tryz.func44, by kernel_rfl, by kernel_rfl⟩
theorem ZT_27 : ZeroT Tryz.prog 27 [.bool false, hnil.v] := mkZ (zv := .agg #[.bool false, hnil.v]) (by kernel_rfl) rfl
theorem FN_58 : FnT Tryz.prog 58 Tryz.f58 := ⟨Tryz.func58, by kernel_rfl, by kernel_rfl⟩
theorem FN_103 : FnT Tryz.prog 103 Tryz.f103 := ⟨Tryz.func103, by kernel_rfl, by kernel_rfl⟩
theorem FN_57 : FnT Tryz.prog 57 Tryz.f57 := ⟨Tryz.func57, by kernel_rfl, by kernel_rfl⟩
theorem SO_27 : StructOf Tryz.prog 27 [.bool false, hnil.v] [(0, 1), (1, 1)] := soOf (by kernel_rfl) (by kernel_rfl)
theorem FN_60 : FnT Tryz.prog 60 Tryz.f60 := ⟨Tryz.func60, by kernel_rfl, by kernel_rfl⟩
theorem FN_132 : FnT Tryz.prog 132 Tryz.f132 := ⟨Tryz.func132, by kernel_rfl, by kernel_rfl⟩
theorem FN_104 : FnT Tryz.prog 104 Tryz.f104 := ⟨Tryz.func104, by kernel_rfl, by kernel_rfl⟩
theorem FN_105 : FnT Tryz.prog 105 Tryz.f105 := ⟨Tryz.func105, by kernel_rfl, by kernel_rfl⟩
theorem FN_59 : FnT Tryz.prog 59 Tryz.f59 := ⟨Tryz.func59, by kernel_rfl, by kernel_rfl⟩
theorem FN_61 : FnT Tryz.prog 61 Tryz.f61 := ⟨Tryz.func61, by kernel_rfl, by kernel_rfl⟩
theorem O_88 : OneT Tryz.prog 88 := mkOne (by kernel_rfl : Tryz.prog.underlying 88 = some (.int .u32)) rfl (by kernel_rfl)
theorem FN_77 : FnT Tryz.prog 77 Tryz.f77 := ⟨Tryz.func77, by kernel_rfl, by kernel_rfl⟩
theorem FN_74 : FnT Tryz.prog 74 Tryz.f74 := ⟨Tryz.func74, by kernel_rfl, by kernel_rfl⟩
theorem FN_23 : FnT Tryz.prog 23 Tryz.f23 := ⟨Tryz.func23, by kernel_rfl, by kernel_rfl⟩
theorem FN_160 : FnT Tryz.prog 160 Tryz.f160 := ⟨Tryz.func160, by kernel_rfl, by kernel_rfl⟩
theorem FN_136 : FnT Tryz.prog 136 Tryz.f136 := ⟨Tryz.func136, by kernel_rfl, by kernel_rfl⟩
theorem FN_159 : FnT Tryz.prog 159 Tryz.f159 := ⟨Tryz.func159, by kernel_rfl, by kernel_rfl⟩
theorem FN_135 : FnT Tryz.prog 135 Tryz.f135 := ⟨Tryz.func135, by kernel_rfl, by kernel_rfl⟩
theorem FN_109 : FnT Tryz.prog 109 Tryz.f109 := ⟨Tryz.func109, by kernel_rfl, by kernel_rfl⟩
theorem FN_75 : FnT Tryz.prog 75 Tryz.f75 := ⟨Tryz.func75, by kernel_rfl, by kernel_rfl⟩
theorem FN_98 : FnT Tryz.prog 98 Tryz.f98 := ⟨Tryz.func98, by kernel_rfl, by kernel_rfl⟩
theorem FN_157 : FnT Tryz.prog 157 Tryz.f157 := ⟨Tryz.func157, by kernel_rfl, by kernel_rfl⟩
theorem FN_137 : FnT Tryz.prog 137 Tryz.f137 := ⟨Tryz.func137, by kernel_rfl, by kernel_rfl⟩
theorem FN_139 : FnT Tryz.prog 139 Tryz.f139 := ⟨Tryz.func139, by kernel_rfl, by kernel_rfl⟩
theorem FN_140 : FnT Tryz.prog 140 Tryz.f140 := ⟨Tryz.func140, by kernel_rfl, by kernel_rfl⟩
theorem FN_162 : FnT Tryz.prog 162 Tryz.f162 := ⟨Tryz.func162, by kernel_rfl, by kernel_rfl⟩
theorem FN_174 : FnT Tryz.prog 174 Tryz.f174 := ⟨Tryz.func174, by kernel_rfl, by kernel_rfl⟩
theorem FN_161 : FnT Tryz.prog 161 Tryz.f161 := ⟨Tryz.func161, by kernel_rfl, by kernel_rfl⟩
theorem FN_141 : FnT Tryz.prog 141 Tryz.f141 := ⟨Tryz.func141, by kernel_rfl, by kernel_rfl⟩
theorem FN_124 : FnT Tryz.prog 124 Tryz.f124 := ⟨Tryz.func124, by kernel_rfl, by kernel_rfl⟩
theorem FL_27_0 : FldT Tryz.prog 27 0 0 := fldOf (by kernel_rfl)
theorem O_4 : OneT Tryz.prog 4 := mkOne (by kernel_rfl : Tryz.prog.underlying 4 = some (.bool)) rfl (by kernel_rfl)
theorem FN_108 : FnT Tryz.prog 108 Tryz.f108 := ⟨Tryz.func108, by kernel_rfl, by kernel_rfl⟩
theorem FN_110 : FnT Tryz.prog 110 Tryz.f110 := ⟨Tryz.func110, by kernel_rfl, by kernel_rfl⟩
theorem FN_85 : FnT Tryz.prog 85 Tryz.f85 := ⟨Tryz.func85, by kernel_rfl, by kernel_rfl⟩
theorem FN_107 : FnT Tryz.prog 107 Tryz.f107 := ⟨Tryz.func107, by kernel_rfl, by kernel_rfl⟩
theorem FN_63 : FnT Tryz.prog 63 Tryz.f63 := ⟨Tryz.func63, by kernel_rfl, by kernel_rfl⟩
theorem FN_76 : FnT Tryz.prog 76 Tryz.f76 := ⟨Tryz.func76, by kernel_rfl, by kernel_rfl⟩
theorem FN_22 : FnT Tryz.prog 22 Tryz.f22 := ⟨Tryz.func22, by kernel_rfl, by kernel_rfl⟩
theorem FN_65 : FnT Tryz.prog 65 Tryz.f65 := ⟨Tryz.func65, by kernel_rfl, by kernel_rfl⟩
theorem FN_84 : FnT Tryz.prog 84 Tryz.f84 := ⟨Tryz.func84, by kernel_rfl, by kernel_rfl⟩
theorem FN_66 : FnT Tryz.prog 66 Tryz.f66 := ⟨Tryz.func66, by kernel_rfl, by kernel_rfl⟩
theorem FN_67 : FnT Tryz.prog 67 Tryz.f67 := ⟨Tryz.func67, by kernel_rfl, by kernel_rfl⟩
theorem FN_13 : FnT Tryz.prog 13 Tryz.f13 := ⟨Tryz.func13, by kernel_rfl, by kernel_rfl⟩
theorem FN_25 : FnT Tryz.prog 25 Tryz.f25 := ⟨Tryz.func25, by kernel_rfl, by kernel_rfl⟩
theorem FN_99 : FnT Tryz.prog 99 Tryz.f99 := ⟨Tryz.func99, by kernel_rfl, by kernel_rfl⟩
theorem SL_101 : SlT Tryz.prog 101 9 rG (⟨#[]⟩ : ByteArray) := mkSl (zv := .string ⟨#[]⟩) (by_ := 16) (by kernel_rfl) (by kernel_rfl) (by omega) (fun _ _ => rfl)
theorem O_9 : OneT Tryz.prog 9 := mkOne (by kernel_rfl : Tryz.prog.underlying 9 = some (.string)) rfl (by kernel_rfl)
theorem FN_101 : FnT Tryz.prog 101 Tryz.f101 := ⟨Tryz.func101, by kernel_rfl, by kernel_rfl⟩
theorem FN_102 : FnT Tryz.prog 102 Tryz.f102 := ⟨Tryz.func102, by kernel_rfl, by kernel_rfl⟩
theorem FN_56 : FnT Tryz.prog 56 Tryz.f56 := ⟨Tryz.func56, by kernel_rfl, by kernel_rfl⟩
theorem FN_11 : FnT Tryz.prog 11 Tryz.f11 := ⟨Tryz.func11, by kernel_rfl, by kernel_rfl⟩
theorem FN_21 : FnT Tryz.prog 21 Tryz.f21 := ⟨Tryz.func21, by kernel_rfl, by kernel_rfl⟩
theorem FN_86 : FnT Tryz.prog 86 Tryz.f86 := ⟨Tryz.func86, by kernel_rfl, by kernel_rfl⟩
theorem FN_87 : FnT Tryz.prog 87 Tryz.f87 := ⟨Tryz.func87, by kernel_rfl, by kernel_rfl⟩
theorem FN_88 : FnT Tryz.prog 88 Tryz.f88 := ⟨Tryz.func88, by kernel_rfl, by kernel_rfl⟩
theorem FN_39 : FnT Tryz.prog 39 Tryz.f39 := ⟨Tryz.func39, by kernel_rfl, by kernel_rfl⟩
theorem FN_111 : FnT Tryz.prog 111 Tryz.f111 := ⟨Tryz.func111, by kernel_rfl, by kernel_rfl⟩
theorem FN_93 : FnT Tryz.prog 93 Tryz.f93 := ⟨Tryz.func93, by kernel_rfl, by kernel_rfl⟩
theorem FN_91 : FnT Tryz.prog 91 Tryz.f91 := ⟨Tryz.func91, by kernel_rfl, by kernel_rfl⟩
theorem FN_89 : FnT Tryz.prog 89 Tryz.f89 := ⟨Tryz.func89, by kernel_rfl, by kernel_rfl⟩
theorem FN_113 : FnT Tryz.prog 113 Tryz.f113 := ⟨Tryz.func113, by kernel_rfl, by kernel_rfl⟩
theorem FN_116 : FnT Tryz.prog 116 Tryz.f116 := ⟨Tryz.func116, by kernel_rfl, by kernel_rfl⟩
theorem FN_138 : FnT Tryz.prog 138 Tryz.f138 := ⟨Tryz.func138, by kernel_rfl, by kernel_rfl⟩
theorem FN_117 : FnT Tryz.prog 117 Tryz.f117 := ⟨Tryz.func117, by kernel_rfl, by kernel_rfl⟩
theorem FN_118 : FnT Tryz.prog 118 Tryz.f118 := ⟨Tryz.func118, by kernel_rfl, by kernel_rfl⟩
theorem FN_112 : FnT Tryz.prog 112 Tryz.f112 := ⟨Tryz.func112, by kernel_rfl, by kernel_rfl⟩
theorem FN_114 : FnT Tryz.prog 114 Tryz.f114 := ⟨Tryz.func114, by kernel_rfl, by kernel_rfl⟩
theorem FN_92 : FnT Tryz.prog 92 Tryz.f92 := ⟨Tryz.func92, by kernel_rfl, by kernel_rfl⟩
theorem FN_69 : FnT Tryz.prog 69 Tryz.f69 := ⟨Tryz.func69, by kernel_rfl, by kernel_rfl⟩
theorem FN_43 : FnT Tryz.prog 43 Tryz.f43 := ⟨Tryz.func43, by kernel_rfl, by kernel_rfl⟩
theorem FN_90 : FnT Tryz.prog 90 Tryz.f90 := ⟨Tryz.func90, by kernel_rfl, by kernel_rfl⟩
theorem FN_73 : FnT Tryz.prog 73 Tryz.f73 := ⟨Tryz.func73, by kernel_rfl, by kernel_rfl⟩
theorem FN_79 : FnT Tryz.prog 79 Tryz.f79 := ⟨Tryz.func79, by kernel_rfl, by kernel_rfl⟩
theorem FN_115 : FnT Tryz.prog 115 Tryz.f115 := ⟨Tryz.func115, by kernel_rfl, by kernel_rfl⟩
theorem FN_70 : FnT Tryz.prog 70 Tryz.f70 := ⟨Tryz.func70, by kernel_rfl, by kernel_rfl⟩
theorem FN_72 : FnT Tryz.prog 72 Tryz.f72 := ⟨Tryz.func72, by kernel_rfl, by kernel_rfl⟩
theorem FN_71 : FnT Tryz.prog 71 Tryz.f71 := ⟨Tryz.func71, by kernel_rfl, by kernel_rfl⟩
theorem FN_42 : FnT Tryz.prog 42 Tryz.f42 := ⟨Tryz.func42, by kernel_rfl, by kernel_rfl⟩
theorem FN_40 : FnT Tryz.prog 40 Tryz.f40 := ⟨Tryz.func40, by kernel_rfl, by kernel_rfl⟩
theorem FN_68 : FnT Tryz.prog 68 Tryz.f68 := ⟨Tryz.func68, by kernel_rfl, by kernel_rfl⟩
theorem FN_16 : FnT Tryz.prog 16 Tryz.f16 := ⟨Tryz.func16, by kernel_rfl, by kernel_rfl⟩
theorem FN_20 : FnT Tryz.prog 20 Tryz.f20 := ⟨Tryz.func20, by kernel_rfl, by kernel_rfl⟩
theorem FN_41 : FnT Tryz.prog 41 Tryz.f41 := ⟨Tryz.func41, by kernel_rfl, by kernel_rfl⟩
end Go.Proofs.YtnfamnfdndaekaaGreatDoor
