/- Models of functions of the program, printed. -/
import Derived.Test.YtcknmegldjnjjaaM2
namespace M
open Sx
set_option linter.unusedVariables false
def sparselaw12_GraphPeripheral_l5 (r21 : (List (List Int))) (r12 : Int) : Bool × Int → Option ((Bool × Int) ⊕ (Bool)) := fun (x32, x33) =>
  if x33 < (r21.length : Int) then
    (if x32 = true then
      some true
    else
      (getI r21 x33).bind fun x59 =>
      (sparsekit_In x59 r12).bind fun r61 =>
      some r61).bind fun r56 =>
    some (.inl (r56, wa .i64 x33 1))
  else
    some (.inr x32)
def sparselaw12_GraphPeripheral (x1 : Int) (x2 : List Int) (x4 : Int) : Option (Bool) :=
  if (60 : Int) < (x2.length : Int) then
    (sparselaw12_awake).bind fun r6 =>
    some r6
  else
    (sparsekit_Place x1 12).bind fun r7 =>
    (sparsemake_Graph (wa .i64 1 r7) x2).bind fun r8 =>
    (sparsekit_Place x4 (wa .i64 1 r7)).bind fun r11 =>
    (graph_Peripheral r8 r11).bind fun r12 =>
    (if ((decide (r12 < 0)) || (decide ((wa .i64 1 r7) ≤ r12))) = true then
      some true
    else
      (graph_Peripheral r8 r12).bind fun r19 =>
      some (!(decide (r19 = r12)))).bind fun r16 =>
    if r16 = true then
      some false
    else
      (graph_Levels r8 r11).bind fun r21 =>
      (graph_Levels r8 r12).bind fun r23 =>
      if ((decide ((r21.length : Int) = 0)) || (decide ((r23.length : Int) < (r21.length : Int)))) = true then
        some false
      else
        (loop (sparselaw12_GraphPeripheral_l5 r21 r12) (false, 0)).bind fun x46 =>
        (if x46 = true then
          (sparselaw12_awake).bind fun r51 =>
          some r51
        else
          some false).bind fun r48 =>
        some r48
end M
