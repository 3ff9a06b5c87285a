/- Models of functions of the program, printed. -/
import Derived.Test.YtcknmegldjnjjaaGreatDoorM5
namespace M
open Sx
set_option linter.unusedVariables false
def cmp_Compare_int (x1 : Int) (x2 : Int) : Option (Int) :=
  (cmp_isNaN_int x1).bind fun r3 =>
  (cmp_isNaN_int x2).bind fun r4 =>
  if r3 = true then
    if r4 = true then
      some 0
    else
      some (-1)
  else
    if r4 = true then
      some 1
    else
      if x1 < x2 then
        some (-1)
      else
        if x2 < x1 then
          some 1
        else
          some 0

def cmp_Or_int_l1 (x1 : List Int) : Int → Option ((Int) ⊕ (Unit ⊕ Int)) := fun x6 =>
  if x6 < (x1.length : Int) then
    (getI x1 x6).bind fun x13 =>
    if x13 = 0 then
      some (.inl (wa .i64 x6 1))
    else
      some (.inr (.inr x13))
  else
    some (.inr (.inl ()))
def cmp_Or_int (x1 : List Int) : Option (Int) :=
  (loop (cmp_Or_int_l1 x1) 0).bind (fun o => match o with
    | .inl () =>
      some 0
    | .inr x11 =>
      some x11)

def matrix_sorted_1 (x1 : Int) (x2 : Int) (x3 : Int) (x4 : Int) (x5 : Int) (x6 : Int) : Option (Int) :=
  (cmp_Compare_int x2 x5).bind fun r9 =>
  (cmp_Compare_int x1 x4).bind fun r10 =>
  (cmp_Or_int [r9, r10]).bind fun r12 =>
  some r12

def slices_insertionSortCmpFunc_apiEntry_l28 (x3 : Int) : (List (Int × Int × Int)) × Int → Option (((List (Int × Int × Int)) × Int) ⊕ (((List (Int × Int × Int))))) := fun (x100, x101) =>
  (if x3 < x101 then
    (getI x100 x101).bind fun x119 =>
    (getI x100 (ws .i64 x101 1)).bind fun x120 =>
    (matrix_sorted_1 x119.1 x119.2.1 x119.2.2 x120.1 x120.2.1 x120.2.2).bind fun r121 =>
    some (decide (r121 < 0))
  else
    some false).bind fun r116 =>
  if r116 = true then
    (getI x100 (ws .i64 x101 1)).bind fun x123 =>
    (getI x100 x101).bind fun x124 =>
    (setI x100 x101 (x123.1, x123.2.1, x123.2.2)).bind fun x125 =>
    (setI x125 (ws .i64 x101 1) (x124.1, x124.2.1, x124.2.2)).bind fun x126 =>
    some (.inl (x126, ws .i64 x101 1))
  else
    some (.inr x100)
def slices_insertionSortCmpFunc_apiEntry_l21 (x4 : Int) (x3 : Int) : (List (Int × Int × Int)) × Int → Option (((List (Int × Int × Int)) × Int) ⊕ (((List (Int × Int × Int))))) := fun (x44, x45) =>
  if x45 < x4 then
    (loop (slices_insertionSortCmpFunc_apiEntry_l28 x3) (x44, x45)).bind fun x115 =>
    some (.inl (x115, wa .i64 x45 1))
  else
    some (.inr x44)
def slices_insertionSortCmpFunc_apiEntry (x1 : List (Int × Int × Int)) (x3 : Int) (x4 : Int) : Option ((List (Int × Int × Int))) :=
  (loop (slices_insertionSortCmpFunc_apiEntry_l21 x4 x3) (x1, wa .i64 x3 1)).bind fun x87 =>
  some x87

def slices_stableCmpFunc_apiEntry_j8 (x21 : Int) : Option ((Int) ⊕ (Unit)) :=
  some (.inl (wm .i64 x21 2))
def slices_stableCmpFunc_apiEntry_l7 (x21 : Int) (x3 : Int) : Unit → Option ((Unit) ⊕ (Unit)) := fun _ =>
  if (wm .i64 2 x21) ≤ x3 then
    none
  else
    some (.inr ())
def slices_stableCmpFunc_apiEntry_l6 (x3 : Int) : Int → Option ((Int) ⊕ (Unit)) := fun x21 =>
  if x21 < x3 then
    (loop (slices_stableCmpFunc_apiEntry_l7 x21 x3) ()).bind fun _ =>
    if (wa .i64 0 x21) < x3 then
      none
    else
      slices_stableCmpFunc_apiEntry_j8 x21
  else
    some (.inr ())
def slices_stableCmpFunc_apiEntry_l1 (x3 : Int) : (List (Int × Int × Int)) × Int × Int → Option (((List (Int × Int × Int)) × Int × Int) ⊕ (((List (Int × Int × Int)) × Int))) := fun (x6, x7, x8) =>
  if x8 ≤ x3 then
    (slices_insertionSortCmpFunc_apiEntry x6 x7 x8).bind fun r32 =>
    some (.inl (r32, x8, wa .i64 x8 20))
  else
    some (.inr (x6, x7))
def slices_stableCmpFunc_apiEntry (x1 : List (Int × Int × Int)) (x3 : Int) : Option ((List (Int × Int × Int))) :=
  (loop (slices_stableCmpFunc_apiEntry_l1 x3) (x1, 0, 20)).bind fun (x14, x15) =>
  (slices_insertionSortCmpFunc_apiEntry x14 x15 x3).bind fun r16 =>
  (loop (slices_stableCmpFunc_apiEntry_l6 x3) 20).bind fun _ =>
  some r16

def slices_SortStableFunc_apiEntry (x1 : List (Int × Int × Int)) : Option ((List (Int × Int × Int))) :=
  (slices_stableCmpFunc_apiEntry x1 (x1.length : Int)).bind fun r3 =>
  some r3

def matrix_sorted (x1 : List (Int × Int × Int)) : Option ((List (Int × Int × Int))) :=
  (slices_Clone_apiEntry x1).bind fun r3 =>
  (slices_SortStableFunc_apiEntry r3).bind fun r5 =>
  some r5

def matrix_build_l4 (x2 : Int) : (List Int) × Int → Option (((List Int) × Int) ⊕ (((List Int)))) := fun (x61, x62) =>
  if x62 < x2 then
    (getI x61 (wa .i64 x62 1)).bind fun x71 =>
    (getI x61 x62).bind fun x72 =>
    (setI x61 (wa .i64 x62 1) (wa .i64 x71 x72)).bind fun x73 =>
    some (.inl (x73, wa .i64 x62 1))
  else
    some (.inr x61)
def matrix_build_l3 (r10 : (List (Int × Int × Int))) : (List Int) × (List Int) × (List Int) × Int → Option (((List Int) × (List Int) × (List Int) × Int) ⊕ (((List Int) × (List Int) × (List Int)))) := fun (x26, x28, x30, x31) =>
  if x31 < (r10.length : Int) then
    (getI r10 x31).bind fun x75 =>
    (app x28 [x75.1]).bind fun x79 =>
    (app x30 [x75.2.2]).bind fun x82 =>
    (getI x26 (wa .i64 x75.2.1 1)).bind fun x86 =>
    (setI x26 (wa .i64 x75.2.1 1) (wa .i64 x86 1)).bind fun x87 =>
    some (.inl (x87, x79, x82, wa .i64 x31 1))
  else
    some (.inr (x26, x28, x30))
def matrix_build (x1 : Int) (x2 : Int) (x3 : List (Int × Int × Int)) : Option (Int × Int × (List Int) × (List Int) × (List Int)) :=
  (mkL 0 (wa .i64 x2 1)).bind fun x8 =>
  (matrix_sorted x3).bind fun r10 =>
  (loop (matrix_build_l3 r10) (x8, [], [], 0)).bind fun (x52, x54, x56) =>
  (loop (matrix_build_l4 x2) (x52, 0)).bind fun x69 =>
  some (x1, x2, x69, x54, x56)

def matrix_selected_j7 (x45 : Int) (x92 : List (Int × Int × Int)) : Option (((List (Int × Int × Int)) × Int) ⊕ (((List (Int × Int × Int))))) :=
  some (.inl (x92, wa .i64 x45 1))
def matrix_selected_l5 (r19 : (List (Int × Int × Int))) (x13 : List Int) (x15 : List Int) : (List (Int × Int × Int)) × Int → Option (((List (Int × Int × Int)) × Int) ⊕ (((List (Int × Int × Int))))) := fun (x44, x45) =>
  if x45 < (r19.length : Int) then
    (getI r19 x45).bind fun x78 =>
    (getI x13 x78.1).bind fun x80 =>
    (if (0 : Int) ≤ x80 then
      (getI x15 x78.2.1).bind fun x85 =>
      some (decide ((0 : Int) ≤ x85))
    else
      some false).bind fun r82 =>
    if r82 = true then
      (getI x13 x78.1).bind fun x94 =>
      (getI x15 x78.2.1).bind fun x95 =>
      (app x44 [(x94, x95, x78.2.2)]).bind fun x98 =>
      matrix_selected_j7 x45 x98
    else
      matrix_selected_j7 x45 x44
  else
    some (.inr x44)
def matrix_selected (x1 : Int) (x2 : Int) (x3 : List Int) (x5 : List Int) (x7 : List Int) (x9 : List Int) (x11 : List Int) (x13 : List Int) (x15 : List Int) : Option (Int × Int × (List Int) × (List Int) × (List Int)) :=
  (matrix_entries x1 x2 x3 x5 x7).bind fun r19 =>
  (loop (matrix_selected_l5 r19 x13 x15) ([], 0)).bind fun x72 =>
  (matrix_build (x9.length : Int) (x11.length : Int) x72).bind fun r73 =>
  some (r73.1, r73.2.1, r73.2.2.1, r73.2.2.2.1, r73.2.2.2.2)

def matrix_Permute (x1 : Int) (x2 : Int) (x3 : List Int) (x5 : List Int) (x7 : List Int) (x9 : List Int) (x11 : List Int) : Option (Int × Int × (List Int) × (List Int) × (List Int) × Int) :=
  (matrix_Check x1 x2 x3 x5 x7).bind fun r15 =>
  if r15 = 0 then
    if ((!(decide ((x9.length : Int) = x1))) || (!(decide ((x11.length : Int) = x2)))) = true then
      some (0, 0, [], [], [], 2)
    else
      (matrix_places x9 x1).bind fun r20 =>
      (matrix_places x11 x2).bind fun r22 =>
      if ((!(decide (r20.2 = 0))) || (!(decide (r22.2 = 0)))) = true then
        some (0, 0, [], [], [], 90)
      else
        (matrix_selected x1 x2 x3 x5 x7 x9 x11 r20.1 r22.1).bind fun r27 =>
        some (r27.1, r27.2.1, r27.2.2.1, r27.2.2.2.1, r27.2.2.2.2, 0)
  else
    some (0, 0, [], [], [], r15)

def sparsekit_Graph (x1 : List (List Int)) (x3 : List (List Int)) : Option (Bool) :=
  (sparsekit_Lists x1 x3).bind fun r7 =>
  some r7

def sparseref09_Stored_l4 (x3 : List Int) (x10 : Int) (x5 : List Int) (x9 : Int) : Int → Option ((Int) ⊕ (Unit ⊕ Unit)) := fun x24 =>
  (getI x3 (wa .i64 x10 1)).bind fun x30 =>
  if x24 < x30 then
    (getI x5 x24).bind fun x32 =>
    if x32 = x9 then
      some (.inr (.inr ()))
    else
      some (.inl (wa .i64 x24 1))
  else
    some (.inr (.inl ()))
def sparseref09_Stored (x1 : Int) (x2 : Int) (x3 : List Int) (x5 : List Int) (x7 : List Int) (x9 : Int) (x10 : Int) : Option (Bool) :=
  if ((((decide (x9 < 0)) || (decide (x1 ≤ x9))) || (decide (x10 < 0))) || (decide (x2 ≤ x10))) = true then
    some false
  else
    (getI x3 x10).bind fun x19 =>
    (loop (sparseref09_Stored_l4 x3 x10 x5 x9) x19).bind (fun o => match o with
      | .inl () =>
        some false
      | .inr () =>
        some true)
end M
