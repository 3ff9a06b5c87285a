/- Models of functions of the program, printed. -/
import Derived.Test.YtoelidgkfpmgnaaM2
namespace M
open Sx
set_option linter.unusedVariables false
def sparselaw19_EtreeSubtrees_j66 (x124 : Int) (x286 : Int) : Option ((Int × Int) ⊕ (Int ⊕ Unit)) :=
  some (.inl (x286, wa .i64 x124 1))
def sparselaw19_EtreeSubtrees_l50 (r4 : Int) (r7 : (List Int)) (r13 : (List Int) × Int) (r11 : (List Int) × Int) (r29 : (List Int)) : Int × Int → Option ((Int × Int) ⊕ (Int ⊕ Unit)) := fun (x123, x124) =>
  if x124 < r4 then
    (getI r7 x124).bind fun x287 =>
    if x287 < 0 then
      (getI r13.1 x124).bind fun x289 =>
      (getI r11.1 x124).bind fun x290 =>
      if x290 = 0 then
        sparselaw19_EtreeSubtrees_j66 x124 (wa .i64 x123 x289)
      else
        some (.inr (.inr ()))
    else
      (getI r11.1 x124).bind fun x292 =>
      (getI r7 x124).bind fun x293 =>
      (getI r11.1 x293).bind fun x294 =>
      (if x292 = (wa .i64 x294 1) then
        (getI r29 x124).bind fun x299 =>
        (getI r7 x124).bind fun x300 =>
        (getI r29 x300).bind fun x301 =>
        some (decide (x301 < x299))
      else
        some true).bind fun r295 =>
      (if r295 = true then
        some true
      else
        (getI r29 x124).bind fun x310 =>
        (getI r13.1 x124).bind fun x311 =>
        (getI r7 x124).bind fun x312 =>
        (getI r29 x312).bind fun x313 =>
        (getI r7 x124).bind fun x314 =>
        (getI r13.1 x314).bind fun x315 =>
        some (decide ((ws .i64 x310 x311) < (ws .i64 x313 x315)))).bind fun r296 =>
      if r296 = true then
        some (.inr (.inr ()))
      else
        sparselaw19_EtreeSubtrees_j66 x124 x123
  else
    some (.inr (.inl x123))
def sparselaw19_EtreeSubtrees (x1 : Int) (x2 : List Int) : Option (Bool) :=
  (sparsekit_Place x1 13).bind fun r4 =>
  if (40 : Int) < (x2.length : Int) then
    (sparselaw19_awake).bind fun r6 =>
    some r6
  else
    (sparsemake_Tree r4 x2).bind fun r7 =>
    (etree_Postorder r7).bind fun r9 =>
    (etree_Depths r7).bind fun r11 =>
    (etree_Sizes r7).bind fun r13 =>
    (if (((!(decide (r9.2 = 0))) || (!(decide (r11.2 = 0)))) || (!(decide (r13.2 = 0)))) = true then
      some true
    else
      (sparsekit_Perm r9.1 r4).bind fun r23 =>
      some (!(r23))).bind fun r20 =>
    if ((r20 || (!(decide ((r11.1.length : Int) = r4)))) || (!(decide ((r13.1.length : Int) = r4)))) = true then
      some false
    else
      (sparsekit_Invert r9.1).bind fun r29 =>
      (loop (sparselaw19_EtreeSubtrees_l50 r4 r7 r13 r11 r29) (0, 0)).bind (fun o => match o with
        | .inl x219 =>
          (if x219 = r4 then
            (sparselaw19_awake).bind fun r224 =>
            some r224
          else
            some false).bind fun r221 =>
          some r221
        | .inr () =>
          some false)
end M
