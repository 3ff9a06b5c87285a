/- Closed facts on the types and the functions of this program. -/
import Derived.Test.YtpfmbaidflhamaaDoorChecked
import Derived.Test.YtpfmbaidflhamaaDoorTm
namespace Go.Proofs.YtpfmbaidflhamaaDoor
open Go Sx
set_option maxRecDepth 100000
theorem folM:Tryd.prog.follows .mixedOrders=true:=by kernel_rfl
theorem SL_22:SlT Tryd.prog 22 3 (rI .i64) 0:=mkSl (zv:=.int .i64 0) (by_:=8) (by kernel_rfl) (by kernel_rfl) (by omega) (fun _ _=>rfl)
theorem ZT_34:ZeroT Tryd.prog 34 [.bool false,hnil.v]:=mkZ (zv:=.agg #[.bool false,hnil.v]) (by kernel_rfl) rfl
theorem SL_32:SlT Tryd.prog 32 58 (rI .u32) 0:=mkSl (zv:=.int .u32 0) (by_:=4) (by kernel_rfl) (by kernel_rfl) (by omega) (fun _ _=>rfl)
theorem O_58:OneT Tryd.prog 58:=mkOne (by kernel_rfl:Tryd.prog.underlying 58=some (.int .u32)) rfl (by kernel_rfl)
theorem FN_70:FnT Tryd.prog 70 Tryd.f70:=⟨Tryd.func70,by kernel_rfl,by kernel_rfl⟩
theorem SO_34:StructOf Tryd.prog 34 [.bool false,hnil.v] [(0,1),(1,1)]:=soOf (by kernel_rfl) (by kernel_rfl)
theorem ST_34:StT Tryd.prog 34 2:=stOf (by kernel_rfl)
theorem FN_54:FnT Tryd.prog 54 Tryd.f54:=⟨Tryd.func54,by kernel_rfl,by kernel_rfl⟩
theorem FN_35:FnT Tryd.prog 35 Tryd.f35:=⟨Tryd.func35,by kernel_rfl,by kernel_rfl⟩
theorem FN_14:FnT Tryd.prog 14 Tryd.f14:=⟨Tryd.func14,by kernel_rfl,by kernel_rfl⟩
theorem SL_31:SlT Tryd.prog 31 34 (rP rB (rS (rI .u32))) (false,[]):=mkSl (zv:=.agg #[.bool false,hnil.v]) (by_:=32) (by kernel_rfl) (by kernel_rfl) (by omega) (fun w X=>⟨[_],_,rfl,rfl,⟨_,rfl,Imm.nil w X (rI .u32)⟩⟩)
theorem SL_25:SlT Tryd.prog 25 31 (rS (rP rB (rS (rI .u32)))) []:=mkSl (zv:=hnil.v) (by_:=24) (by kernel_rfl) (by kernel_rfl) (by omega) (fun w X=>⟨_,rfl,Imm.nil w X (rP rB (rS (rI .u32)))⟩)
theorem O_31:OneT Tryd.prog 31:=mkOne (by kernel_rfl:Tryd.prog.underlying 31=some (.slice 34)) rfl (by kernel_rfl)
theorem FN_42:FnT Tryd.prog 42 Tryd.f42:=⟨Tryd.func42,by kernel_rfl,by kernel_rfl⟩
theorem ZT_3:ZeroT Tryd.prog 3 [.int .i64 0]:=mkZ (zv:=.int .i64 0) (by kernel_rfl) rfl
theorem O_3:OneT Tryd.prog 3:=mkOne (by kernel_rfl:Tryd.prog.underlying 3=some (.int .i64)) rfl (by kernel_rfl)
theorem FN_59:FnT Tryd.prog 59 Tryd.f59:=⟨Tryd.func59,by kernel_rfl,by kernel_rfl⟩
theorem FN_76:FnT Tryd.prog 76 Tryd.f76:=⟨Tryd.func76,by kernel_rfl,by kernel_rfl⟩
theorem FN_58:FnT Tryd.prog 58 Tryd.f58:=⟨Tryd.func58,by kernel_rfl,by kernel_rfl⟩
theorem FN_41:FnT Tryd.prog 41 Tryd.f41:=⟨Tryd.func41,by kernel_rfl,by kernel_rfl⟩
theorem FN_24:FnT Tryd.prog 24 Tryd.f24:=⟨Tryd.func24,by kernel_rfl,by kernel_rfl⟩
theorem FN_30:FnT Tryd.prog 30 Tryd.f30:=⟨Tryd.func30,by kernel_rfl,by kernel_rfl⟩
theorem FL_34_0:FldT Tryd.prog 34 0 0:=fldOf (by kernel_rfl)
theorem O_4:OneT Tryd.prog 4:=mkOne (by kernel_rfl:Tryd.prog.underlying 4=some (.bool)) rfl (by kernel_rfl)
theorem FL_34_1:FldT Tryd.prog 34 1 1:=fldOf (by kernel_rfl)
theorem O_32:OneT Tryd.prog 32:=mkOne (by kernel_rfl:Tryd.prog.underlying 32=some (.slice 58)) rfl (by kernel_rfl)
theorem FN_29:FnT Tryd.prog 29 Tryd.f29:=⟨Tryd.func29,by kernel_rfl,by kernel_rfl⟩
theorem FN_28:FnT Tryd.prog 28 Tryd.f28:=⟨Tryd.func28,by kernel_rfl,by kernel_rfl⟩
theorem FN_51:FnT Tryd.prog 51 Tryd.f51:=⟨Tryd.func51,by kernel_rfl,by kernel_rfl⟩
theorem SLH_25:SlT Tryd.prog 25 31 rH hnil:=mkSl (zv:=hnil.v) (by_:=24) (by kernel_rfl) (by kernel_rfl) (by omega) (fun _ _=>rfl)
theorem FN_27:FnT Tryd.prog 27 Tryd.f27:=⟨Tryd.func27,by kernel_rfl,by kernel_rfl⟩
theorem ZT_62:ZeroT Tryd.prog 62 [hnil.v,hnil.v,.bool false,hnil.v,.int .i64 0]:=mkZ (zv:=.agg #[hnil.v,hnil.v,.bool false,hnil.v,.int .i64 0]) (by kernel_rfl) rfl
theorem FN_48:FnT Tryd.prog 48 Tryd.f48:=⟨Tryd.func48,by kernel_rfl,by kernel_rfl⟩
theorem SO_62:StructOf Tryd.prog 62 [hnil.v,hnil.v,.bool false,hnil.v,.int .i64 0] [(0,1),(1,1),(2,2),(4,1)]:=soOf (by kernel_rfl) (by kernel_rfl)
theorem ST_62:StT Tryd.prog 62 5:=stOf (by kernel_rfl)
theorem FL_62_1:FldT Tryd.prog 62 1 1:=fldOf (by kernel_rfl)
theorem O_22:OneT Tryd.prog 22:=mkOne (by kernel_rfl:Tryd.prog.underlying 22=some (.slice 3)) rfl (by kernel_rfl)
theorem FN_18:FnT Tryd.prog 18 Tryd.f18:=⟨Tryd.func18,by kernel_rfl,by kernel_rfl⟩
theorem FL_62_0:FldT Tryd.prog 62 0 0:=fldOf (by kernel_rfl)
theorem O_25:OneT Tryd.prog 25:=mkOne (by kernel_rfl:Tryd.prog.underlying 25=some (.slice 31)) rfl (by kernel_rfl)
theorem FL_62_3:FldT Tryd.prog 62 3 4:=fldOf (by kernel_rfl)
theorem FN_34:FnT Tryd.prog 34 Tryd.f34:=⟨Tryd.func34,by kernel_rfl,by kernel_rfl⟩
theorem FN_31:FnT Tryd.prog 31 Tryd.f31:=⟨Tryd.func31,by kernel_rfl,by kernel_rfl⟩
theorem FN_69:FnT Tryd.prog 69 Tryd.f69:=⟨Tryd.func69,by kernel_rfl,by kernel_rfl⟩
theorem FN_53:FnT Tryd.prog 53 Tryd.f53:=⟨Tryd.func53,by kernel_rfl,by kernel_rfl⟩
theorem FN_68:FnT Tryd.prog 68 Tryd.f68:=⟨Tryd.func68,by kernel_rfl,by kernel_rfl⟩
theorem FN_52:FnT Tryd.prog 52 Tryd.f52:=⟨Tryd.func52,by kernel_rfl,by kernel_rfl⟩
theorem FN_32:FnT Tryd.prog 32 Tryd.f32:=⟨Tryd.func32,by kernel_rfl,by kernel_rfl⟩
theorem FN_33:FnT Tryd.prog 33 Tryd.f33:=⟨Tryd.func33,by kernel_rfl,by kernel_rfl⟩
theorem FN_12:FnT Tryd.prog 12 Tryd.f12:=⟨Tryd.func12,by kernel_rfl,by kernel_rfl⟩
theorem FN_43:FnT Tryd.prog 43 Tryd.f43:=⟨Tryd.func43,by kernel_rfl,by kernel_rfl⟩
theorem FN_100:FnT Tryd.prog 100 Tryd.f100:=⟨Tryd.func100,by kernel_rfl,by kernel_rfl⟩
theorem FN_91:FnT Tryd.prog 91 Tryd.f91:=⟨Tryd.func91,by kernel_rfl,by kernel_rfl⟩
theorem FN_92:FnT Tryd.prog 92 Tryd.f92:=⟨Tryd.func92,by kernel_rfl,by kernel_rfl⟩
theorem FN_93:FnT Tryd.prog 93 Tryd.f93:=⟨Tryd.func93,by kernel_rfl,by kernel_rfl⟩
theorem FN_102:FnT Tryd.prog 102 Tryd.f102:=⟨Tryd.func102,by kernel_rfl,by kernel_rfl⟩
theorem FN_105:FnT Tryd.prog 105 Tryd.f105:=⟨Tryd.func105,by kernel_rfl,by kernel_rfl⟩
theorem FN_101:FnT Tryd.prog 101 Tryd.f101:=⟨Tryd.func101,by kernel_rfl,by kernel_rfl⟩
theorem FN_94:FnT Tryd.prog 94 Tryd.f94:=⟨Tryd.func94,by kernel_rfl,by kernel_rfl⟩
theorem FN_83:FnT Tryd.prog 83 Tryd.f83:=⟨Tryd.func83,by kernel_rfl,by kernel_rfl⟩
theorem FN_67:FnT Tryd.prog 67 Tryd.f67:=⟨Tryd.func67,by kernel_rfl,by kernel_rfl⟩
theorem FN_13:FnT Tryd.prog 13 Tryd.f13:=⟨Tryd.func13,by kernel_rfl,by kernel_rfl⟩
theorem FN_84:FnT Tryd.prog 84 Tryd.f84:=⟨Tryd.func84,by kernel_rfl,by kernel_rfl⟩
theorem FN_50:FnT Tryd.prog 50 Tryd.f50:=⟨Tryd.func50,by kernel_rfl,by kernel_rfl⟩
theorem FL_62_2:FldT Tryd.prog 62 2 2:=fldOf (by kernel_rfl)
theorem FN_71:FnT Tryd.prog 71 Tryd.f71:=⟨Tryd.func71,by kernel_rfl,by kernel_rfl⟩
theorem FN_55:FnT Tryd.prog 55 Tryd.f55:=⟨Tryd.func55,by kernel_rfl,by kernel_rfl⟩
theorem FN_36:FnT Tryd.prog 36 Tryd.f36:=⟨Tryd.func36,by kernel_rfl,by kernel_rfl⟩
theorem FN_11:FnT Tryd.prog 11 Tryd.f11:=⟨Tryd.func11,by kernel_rfl,by kernel_rfl⟩
theorem FN_37:FnT Tryd.prog 37 Tryd.f37:=⟨Tryd.func37,by kernel_rfl,by kernel_rfl⟩
theorem FN_20:FnT Tryd.prog 20 Tryd.f20:=⟨Tryd.func20,by kernel_rfl,by kernel_rfl⟩
theorem FN_16:FnT Tryd.prog 16 Tryd.f16:=⟨Tryd.func16,by kernel_rfl,by kernel_rfl⟩
theorem FN_25:FnT Tryd.prog 25 Tryd.f25:=⟨Tryd.func25,by kernel_rfl,by kernel_rfl⟩
theorem FN_49:FnT Tryd.prog 49 Tryd.f49:=⟨Tryd.func49,by kernel_rfl,by kernel_rfl⟩
theorem FN_26:FnT Tryd.prog 26 Tryd.f26:=⟨Tryd.func26,by kernel_rfl,by kernel_rfl⟩
theorem FN_9:FnT Tryd.prog 9 Tryd.f9:=⟨Tryd.func9,by kernel_rfl,by kernel_rfl⟩
theorem FN_44:FnT Tryd.prog 44 Tryd.f44:=⟨Tryd.func44,by kernel_rfl,by kernel_rfl⟩
theorem SL_67:SlT Tryd.prog 67 9 rG (⟨#[]⟩:ByteArray):=mkSl (zv:=.string ⟨#[]⟩) (by_:=16) (by kernel_rfl) (by kernel_rfl) (by omega) (fun _ _=>rfl)
theorem O_9:OneT Tryd.prog 9:=mkOne (by kernel_rfl:Tryd.prog.underlying 9=some (.string)) rfl (by kernel_rfl)
theorem FN_46:FnT Tryd.prog 46 Tryd.f46:=⟨Tryd.func46,by kernel_rfl,by kernel_rfl⟩
theorem FN_47:FnT Tryd.prog 47 Tryd.f47:=⟨Tryd.func47,by kernel_rfl,by kernel_rfl⟩
theorem FN_23:FnT Tryd.prog 23 Tryd.f23:=⟨Tryd.func23,by kernel_rfl,by kernel_rfl⟩
theorem FN_6:FnT Tryd.prog 6 Tryd.f6:=⟨Tryd.func6,by kernel_rfl,by kernel_rfl⟩
theorem FN_7:FnT Tryd.prog 7 Tryd.f7:=⟨Tryd.func7,by kernel_rfl,by kernel_rfl⟩
theorem FN_15:FnT Tryd.prog 15 Tryd.f15:=⟨Tryd.func15,by kernel_rfl,by kernel_rfl⟩
theorem FN_8:FnT Tryd.prog 8 Tryd.f8:=⟨Tryd.func8,by kernel_rfl,by kernel_rfl⟩
theorem FV_62_1:FldV Tryd.prog 62 1 1:=fvOf (by kernel_rfl)
theorem FN_22:FnT Tryd.prog 22 Tryd.f22:=⟨Tryd.func22,by kernel_rfl,by kernel_rfl⟩
theorem FN_38:FnT Tryd.prog 38 Tryd.f38:=⟨Tryd.func38,by kernel_rfl,by kernel_rfl⟩
theorem FN_17:FnT Tryd.prog 17 Tryd.f17:=⟨Tryd.func17,by kernel_rfl,by kernel_rfl⟩
end Go.Proofs.YtpfmbaidflhamaaDoor
