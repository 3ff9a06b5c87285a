/- The library's count of trailing zero bits; its table is a fact that every walk carries. -/
import Derived.KernelRfl
import Derived.Shelf.Spec.TrailingZeros
import Derived.Test.YtoahkigijbeegaaGreatDoorTy
namespace Sx
open Go Go.Proofs
def globF:Fact where
 h w X:=X 0∧TabAt 0 Go.Lib.deBruijn32tab w
 mono:=by
  rintro w w' X X' ⟨h1,h2⟩ hX hs
  refine ⟨hs _ h1,fun j hj=>?_⟩
  have:=h2 j hj
  unfold World.cell? at this ⊢
  rw [hX _ h1]
  exact this
end Sx
namespace Go.Proofs.YtoahkigijbeegaaGreatDoor
open Go Go.Shelf
set_option maxRecDepth 100000
set_option linter.unusedVariables false
def Tryz.lays7_28_r:Ren:=⟨(fun x=>match x with | 28=>156 | _=>0),(fun x=>match x with | 27=>108 | 3=>3 | 4=>4 | 25=>52 | 53=>231 | 0=>0 | 5=>5 | _=>0),(fun x=>match x with | 0=>0 | _=>0)⟩
theorem Tryz.lays7_28:Lays7.n28 Tryz.prog Tryz.lays7_28_r where
 mixed:=H0
 f28:=H0
 t0:=H0
 a0:=fun w=>by kernel_rfl
 z0:=fun w=>by kernel_rfl
 v0:=fun w=>by kernel_rfl
 i0:=H0
 t3:=H0
 a3:=fun w=>by kernel_rfl
 z3:=fun w=>by kernel_rfl
 v3:=fun w=>by kernel_rfl
 i3:=H0
 t4:=H0
 a4:=fun w=>by kernel_rfl
 z4:=fun w=>by kernel_rfl
 v4:=fun w=>by kernel_rfl
 i4:=H0
 t5:=H0
 a5:=fun w=>by kernel_rfl
 z5:=fun w=>by kernel_rfl
 v5:=fun w=>by kernel_rfl
 i5:=H0
 t25:=H0
 a25:=fun w=>by kernel_rfl
 z25:=fun w=>by kernel_rfl
 v25:=fun w=>by kernel_rfl
 i25:=H0
 t27:=H0
 a27:=fun w=>by kernel_rfl
 z27:=fun w=>by kernel_rfl
 v27:=fun w=>by kernel_rfl
 i27:=H0
 t53:=H0
 a53:=fun w=>by kernel_rfl
 z53:=fun w=>by kernel_rfl
 v53:=fun w=>by kernel_rfl
 i53:=H0
 g0:=H0
open Sx in
theorem Yn {w0:World} {mu:List Fact} {rs:List Res} {w:World} {x1:Int} {out:Int} (hM:tz32 x1=some out) (q1:globF∈mu) (nu:St w0 mu (rs) w):
  Calls Tryz.prog 156 #[.int .u32 x1] w (fun e w=>e=.returned (.int .i64 out)∧St w0 mu (rs) w):=by
 unfold tz32 at hM
 split at hM
 ·rename_i hx
  obtain rfl:=P1 hM
  obtain ⟨n,rfl⟩:=D3 hx.1
  have hT:TabAt 0 Go.Lib.deBruijn32tab w:=by
   obtain ⟨X,hX⟩:=nu
   exact (hX.ro _ q1).2
  refine (Any7.bits_TrailingZeros32 Tryz.lays7_28 n n0 w (fun _=>hT)).mono ?_
  rintro e w' ⟨rfl,rfl⟩
  exact ⟨rfl,nu⟩
 ·cases hM
end Go.Proofs.YtoahkigijbeegaaGreatDoor
