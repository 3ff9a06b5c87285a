/- Models of functions of the program, printed. -/
import Derived.Test.YthpeajepbffinaaM4
namespace M
open Sx
set_option linter.unusedVariables false
def dissect_Cut_j40 (x145 : Int) (x174 : Int) : Option ((Int × Int) ⊕ (Int)) :=
  some (.inl (x174, wa .i64 x145 1))
def dissect_Cut_l36 (x127 : List Int) (x69 : Int) (x7 : List Int) (x5 : List (List Int)) : Int × Int → Option ((Int × Int) ⊕ (Int)) := fun (x144, x145) =>
  if x145 < (x127.length : Int) then
    (getI x127 x145).bind fun x165 =>
    (if x165 < x69 then
      (getI x7 x165).bind fun x169 =>
      (getI x7 x69).bind fun x170 =>
      some (!(decide (x169 = x170)))
    else
      some false).bind fun r166 =>
    if r166 = true then
      (getI x5 x69).bind fun x176 =>
      (getI x176 x145).bind fun x178 =>
      dissect_Cut_j40 x145 (wa .i64 x144 x178)
    else
      dissect_Cut_j40 x145 x144
  else
    some (.inr x144)
def dissect_Cut_l27 (x1 : List (List Int)) (x7 : List Int) (x5 : List (List Int)) : Int × Int → Option ((Int × Int) ⊕ (Int)) := fun (x68, x69) =>
  if x69 < (x1.length : Int) then
    (getI x1 x69).bind fun x127 =>
    (loop (dissect_Cut_l36 x127 x69 x7 x5) (x68, 0)).bind fun x163 =>
    some (.inl (x163, wa .i64 x69 1))
  else
    some (.inr x68)
def dissect_Cut (x1 : List (List Int)) (x3 : List Int) (x5 : List (List Int)) (x7 : List Int) : Option (Int × Int) :=
  (dissect_CheckWeighted x1 x3 x5).bind fun r10 =>
  if r10 = 0 then
    if (x7.length : Int) = (x3.length : Int) then
      (slices_ContainsFunc_int_v3 x7).bind fun r13 =>
      if r13 = true then
        some (0, 1)
      else
        (loop (dissect_Cut_l27 x1 x7 x5) (0, 0)).bind fun x125 =>
        some (x125, 0)
    else
      some (0, 2)
  else
    some (0, r10)

def sparselaw18_DissectCoarse_l26 (r12 : Int) (r20 : (List (List Int)) × (List Int) × (List (List Int)) × (List Int) × Int) (x72 : List Int) : (List Int) × Int → Option (((List Int) × Int) ⊕ (((List Int)) ⊕ Unit)) := fun (x87, x88) =>
  if x88 < r12 then
    (getI r20.2.2.2.1 x88).bind fun x119 =>
    (if x119 < 0 then
      some true
    else
      (getI r20.2.2.2.1 x88).bind fun x124 =>
      some (decide ((r20.2.1.length : Int) ≤ x124))).bind fun r121 =>
    if r121 = true then
      some (.inr (.inr ()))
    else
      (getI r20.2.2.2.1 x88).bind fun x126 =>
      (getI x72 x126).bind fun x127 =>
      (app x87 [x127]).bind fun x130 =>
      some (.inl (x130, wa .i64 x88 1))
  else
    some (.inr (.inl x87))
def sparselaw18_DissectCoarse_l23 (r20 : (List (List Int)) × (List Int) × (List (List Int)) × (List Int) × Int) (x6 : List Int) : (List Int) × Int → Option (((List Int) × Int) ⊕ (((List Int)))) := fun (x60, x61) =>
  if x61 < (r20.2.1.length : Int) then
    (sparsemake_At x6 x61).bind fun r132 =>
    (sparsekit_Place r132 2).bind fun r133 =>
    (app x60 [r133]).bind fun x136 =>
    some (.inl (x136, wa .i64 x61 1))
  else
    some (.inr x60)
def sparselaw18_DissectCoarse (x1 : Int) (x2 : List Int) (x4 : List Int) (x6 : List Int) : Option (Bool) :=
  if ((decide ((90 : Int) < (x2.length : Int))) || (decide ((60 : Int) < (x4.length : Int)))) = true then
    (sparselaw18_awake).bind fun r11 =>
    some r11
  else
    (sparsekit_Place x1 25).bind fun r12 =>
    (sparsemake_Weighted r12 x2 x4).bind fun r13 =>
    (dissect_Match r13.1 r13.2.1 r13.2.2).bind fun r18 =>
    (dissect_Coarsen r13.1 r13.2.1 r13.2.2 r18.1).bind fun r20 =>
    (if r18.2 = 0 then
      some (!(decide (r20.2.2.2.2 = 0)))
    else
      some true).bind fun r28 =>
    (if r28 = true then
      some true
    else
      some (!(decide ((r20.2.2.2.1.length : Int) = r12)))).bind fun r29 =>
    (if r29 = true then
      some true
    else
      (dissect_CheckWeighted r20.1 r20.2.1 r20.2.2.1).bind fun r42 =>
      some (!(decide (r42 = 0)))).bind fun r30 =>
    (if r30 = true then
      some true
    else
      (sparseref18_Total r20.1 r20.2.1 r20.2.2.1).bind fun r45 =>
      (sparseref18_Total r13.1 r13.2.1 r13.2.2).bind fun r46 =>
      some (!(decide (r45 = r46)))).bind fun r31 =>
    (if r31 = true then
      some true
    else
      some (decide (r12 < (r20.2.1.length : Int)))).bind fun r32 =>
    if r32 = true then
      some false
    else
      (loop (sparselaw18_DissectCoarse_l23 r20 x6) ([], 0)).bind fun x72 =>
      (loop (sparselaw18_DissectCoarse_l26 r12 r20 x72) ([], 0)).bind (fun o => match o with
        | .inl x106 =>
          (dissect_Cut r20.1 r20.2.1 r20.2.2.1 x72).bind fun r107 =>
          (dissect_Cut r13.1 r13.2.1 r13.2.2 x106).bind fun r108 =>
          (if (((decide (r107.2 = 0)) && (decide (r108.2 = 0))) && (decide (r107.1 = r108.1))) = true then
            (sparselaw18_awake).bind fun r117 =>
            some r117
          else
            some false).bind fun r114 =>
          some r114
        | .inr () =>
          some false)
end M
