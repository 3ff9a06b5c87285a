/- The library's count of trailing zero bits; its table is a fact that every walk carries. -/
import Derived.KernelRfl
import Derived.Shelf.Spec.TrailingZeros
import Derived.Test.YthekfonboblioabGreatDoorTy
namespace Sx
open Go Go.Proofs
def globF:Fact where
 h w X:=X 0∧TabAt 0 Go.Lib.deBruijn32tab w
 mono:=by
  rintro w w' X X' ⟨h1,h2⟩ hX hs
  refine ⟨hs _ h1,fun j hj=>?_⟩
  have:=h2 j hj
  unfold World.cell? at this ⊢
  rw [hX _ h1]
  exact this
end Sx
namespace Go.Proofs.YthekfonboblioabGreatDoor
open Go Go.Shelf
set_option maxRecDepth 100000
set_option linter.unusedVariables false
def Tryz.lays7_28_r:Ren:=⟨(fun x=>match x with | 28=>183 | _=>0),(fun x=>match x with | 27=>126 | 3=>3 | 4=>4 | 25=>46 | 53=>192 | 0=>0 | 5=>5 | _=>0),(fun x=>match x with | 0=>0 | _=>0)⟩
theorem Tryz.lays7_28:Lays7.n28 Tryz.prog Tryz.lays7_28_r where
 mixed:=I0
 f28:=I0
 t0:=I0
 a0:=fun w=>by kernel_rfl
 z0:=fun w=>by kernel_rfl
 v0:=fun w=>by kernel_rfl
 i0:=I0
 t3:=I0
 a3:=fun w=>by kernel_rfl
 z3:=fun w=>by kernel_rfl
 v3:=fun w=>by kernel_rfl
 i3:=I0
 t4:=I0
 a4:=fun w=>by kernel_rfl
 z4:=fun w=>by kernel_rfl
 v4:=fun w=>by kernel_rfl
 i4:=I0
 t5:=I0
 a5:=fun w=>by kernel_rfl
 z5:=fun w=>by kernel_rfl
 v5:=fun w=>by kernel_rfl
 i5:=I0
 t25:=I0
 a25:=fun w=>by kernel_rfl
 z25:=fun w=>by kernel_rfl
 v25:=fun w=>by kernel_rfl
 i25:=I0
 t27:=I0
 a27:=fun w=>by kernel_rfl
 z27:=fun w=>by kernel_rfl
 v27:=fun w=>by kernel_rfl
 i27:=I0
 t53:=I0
 a53:=fun w=>by kernel_rfl
 z53:=fun w=>by kernel_rfl
 v53:=fun w=>by kernel_rfl
 i53:=I0
 g0:=I0
open Sx in
theorem Gq {w0:World} {ax:List Fact} {rs:List Res} {w:World} {x1:Int} {out:Int} (hM:tz32 x1=some out) (q1:globF∈ax) (cx:St w0 ax (rs) w):
  Calls Tryz.prog 183 #[.int .u32 x1] w (fun e w=>e=.returned (.int .i64 out)∧St w0 ax (rs) w):=by
 unfold tz32 at hM
 split at hM
 ·rename_i hx
  obtain rfl:=N2 hM
  obtain ⟨n,rfl⟩:=W4 hx.1
  have hT:TabAt 0 Go.Lib.deBruijn32tab w:=by
   obtain ⟨X,hX⟩:=cx
   exact (hX.ro _ q1).2
  refine (Any7.bits_TrailingZeros32 Tryz.lays7_28 n A0 w (fun _=>hT)).mono ?_
  rintro e w' ⟨rfl,rfl⟩
  exact ⟨rfl,cx⟩
 ·cases hM
end Go.Proofs.YthekfonboblioabGreatDoor
