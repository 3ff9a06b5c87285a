/- The library's count of trailing zero bits; its table is a fact that every walk carries. -/
import Derived.KernelRfl
import Derived.Shelf.Spec.TrailingZeros
import Derived.Test.YtcoaljcfifecgaeGreatDoorTy
namespace Sx
open Go Go.Proofs
def globF:Fact where
 h w X:=X 0∧TabAt 0 Go.Lib.deBruijn32tab w
 mono:=by
  rintro w w' X X' ⟨h1,h2⟩ hX hs
  refine ⟨hs _ h1,fun j hj=>?_⟩
  have:=h2 j hj
  unfold World.cell? at this ⊢
  rw [hX _ h1]
  exact this
end Sx
namespace Go.Proofs.YtcoaljcfifecgaeGreatDoor
open Go Go.Shelf
set_option maxRecDepth 100000
set_option linter.unusedVariables false
def Tryz.lays7_28_r:Ren:=⟨(fun x=>match x with | 28=>150 | _=>0),(fun x=>match x with | 27=>106 | 3=>3 | 4=>4 | 25=>83 | 53=>181 | 0=>0 | 5=>5 | _=>0),(fun x=>match x with | 0=>0 | _=>0)⟩
theorem Tryz.lays7_28:Lays7.n28 Tryz.prog Tryz.lays7_28_r where
 mixed:=by kernel_rfl
 f28:=by kernel_rfl
 t0:=by kernel_rfl
 a0:=fun w=>by kernel_rfl
 z0:=fun w=>by kernel_rfl
 v0:=fun w=>by kernel_rfl
 i0:=by kernel_rfl
 t3:=by kernel_rfl
 a3:=fun w=>by kernel_rfl
 z3:=fun w=>by kernel_rfl
 v3:=fun w=>by kernel_rfl
 i3:=by kernel_rfl
 t4:=by kernel_rfl
 a4:=fun w=>by kernel_rfl
 z4:=fun w=>by kernel_rfl
 v4:=fun w=>by kernel_rfl
 i4:=by kernel_rfl
 t5:=by kernel_rfl
 a5:=fun w=>by kernel_rfl
 z5:=fun w=>by kernel_rfl
 v5:=fun w=>by kernel_rfl
 i5:=by kernel_rfl
 t25:=by kernel_rfl
 a25:=fun w=>by kernel_rfl
 z25:=fun w=>by kernel_rfl
 v25:=fun w=>by kernel_rfl
 i25:=by kernel_rfl
 t27:=by kernel_rfl
 a27:=fun w=>by kernel_rfl
 z27:=fun w=>by kernel_rfl
 v27:=fun w=>by kernel_rfl
 i27:=by kernel_rfl
 t53:=by kernel_rfl
 a53:=fun w=>by kernel_rfl
 z53:=fun w=>by kernel_rfl
 v53:=fun w=>by kernel_rfl
 i53:=by kernel_rfl
 g0:=by kernel_rfl
open Sx in
theorem tz32_ok {w0:World} {ros:List Fact} {rs:List Res} {w:World} {x1:Int} {out:Int} (hM:tz32 x1=some out) (q1:globF∈ros) (hst:St w0 ros (rs) w):
  Calls Tryz.prog 150 #[.int .u32 x1] w (fun e w=>e=.returned (.int .i64 out)∧St w0 ros (rs) w):=by
 unfold tz32 at hM
 split at hM
 ·rename_i hx
  obtain rfl:=Option.some.inj hM
  obtain ⟨n,rfl⟩:=Int.eq_ofNat_of_zero_le hx.1
  have hT:TabAt 0 Go.Lib.deBruijn32tab w:=by
   obtain ⟨X,hX⟩:=hst
   exact (hX.ro _ q1).2
  refine (Any7.bits_TrailingZeros32 Tryz.lays7_28 n (by omega) w (fun _=>hT)).mono ?_
  rintro e w' ⟨rfl,rfl⟩
  exact ⟨rfl,hst⟩
 ·cases hM
end Go.Proofs.YtcoaljcfifecgaeGreatDoor
