/- Models of functions of the program, printed. -/
import Derived.Test.YtoelidgkfpmgnaaM2
namespace M
open Sx
set_option linter.unusedVariables false
def sparselaw19_EtreeMade (x1 : Int) (x2 : List Int) : Option (Bool) :=
  if (80 : Int) < (x2.length : Int) then
    (sparselaw19_awake).bind fun r5 =>
    some r5
  else
    (sparsekit_Place x1 13).bind fun r6 =>
    (sparsemake_Graph r6 x2).bind fun r7 =>
    (etree_Parent r7).bind fun r10 =>
    (sparseref19_Parent r7).bind fun r12 =>
    (if r10.2 = 0 then
      (sparsekit_Ints r10.1 r12.1).bind fun r18 =>
      some (!(r18))
    else
      some true).bind fun r15 =>
    if r15 = true then
      some false
    else
      (etree_Postorder r10.1).bind fun r20 =>
      (sparseref19_Postorder r12.1).bind fun r22 =>
      (etree_Depths r10.1).bind fun r24 =>
      (sparseref19_Depths r12.1).bind fun r26 =>
      (etree_Sizes r10.1).bind fun r28 =>
      (sparseref19_Sizes r12.1).bind fun r30 =>
      (if (((decide (r20.2 = 0)) && (decide (r24.2 = 0))) && (decide (r28.2 = 0))) = true then
        (sparsekit_Ints r20.1 r22.1).bind fun r40 =>
        some r40
      else
        some false).bind fun r37 =>
      (if r37 = true then
        (sparsekit_Ints r24.1 r26.1).bind fun r45 =>
        some r45
      else
        some false).bind fun r42 =>
      (if r42 = true then
        (sparsekit_Ints r28.1 r30.1).bind fun r50 =>
        some r50
      else
        some false).bind fun r47 =>
      (if r47 = true then
        (sparselaw19_awake).bind fun r55 =>
        some r55
      else
        some false).bind fun r52 =>
      some r52

def sparselaw19_small_l3 (x1 : List (List Int)) : Int → Option ((Int) ⊕ (Unit ⊕ Unit)) := fun x13 =>
  if x13 < (x1.length : Int) then
    (getI x1 x13).bind fun x20 =>
    if (20 : Int) < (x20.length : Int) then
      some (.inr (.inr ()))
    else
      some (.inl (wa .i64 x13 1))
  else
    some (.inr (.inl ()))
def sparselaw19_small (x1 : List (List Int)) : Option (Bool) :=
  if (((decide ((12 : Int) < (x1.length : Int))) && (decide ((x1.length : Int) ≤ 200))) || (decide ((400 : Int) < (x1.length : Int)))) = true then
    some false
  else
    (loop (sparselaw19_small_l3 x1) 0).bind (fun o => match o with
      | .inl () =>
        some true
      | .inr () =>
        some false)

def sparsekit_TwinLists_l1 (x1 : List (List Int)) : (List (List Int)) × Int → Option (((List (List Int)) × Int) ⊕ (((List (List Int))))) := fun (x12, x13) =>
  if x13 < (x1.length : Int) then
    (getI x1 x13).bind fun x28 =>
    (sparsekit_TwinInts x28).bind fun r30 =>
    (app x12 [r30]).bind fun x34 =>
    some (.inl (x34, wa .i64 x13 1))
  else
    some (.inr x12)
def sparsekit_TwinLists (x1 : List (List Int)) : Option ((List (List Int))) :=
  (loop (sparsekit_TwinLists_l1 x1) ([], 0)).bind fun x26 =>
  some x26

def sparsekit_TwinGraph (x1 : List (List Int)) : Option ((List (List Int))) :=
  (sparsekit_TwinLists x1).bind fun r5 =>
  some r5

def matrix_within (x1 : Int) (x2 : Int) (x3 : Int) : Option (Bool) :=
  some ((decide (x2 ≤ x1)) && (decide (x1 ≤ x3)))

def slices_IsSorted_int_l1 (x1 : List Int) : Int → Option ((Int) ⊕ (Unit ⊕ Unit)) := fun x8 =>
  if (0 : Int) < x8 then
    (getI x1 x8).bind fun x16 =>
    (getI x1 (ws .i64 x8 1)).bind fun x17 =>
    (cmp_Less_int x16 x17).bind fun r18 =>
    if r18 = true then
      some (.inr (.inr ()))
    else
      some (.inl (ws .i64 x8 1))
  else
    some (.inr (.inl ()))
def slices_IsSorted_int (x1 : List Int) : Option (Bool) :=
  (loop (slices_IsSorted_int_l1 x1) (ws .i64 (x1.length : Int) 1)).bind (fun o => match o with
    | .inl () =>
      some true
    | .inr () =>
      some false)

def matrix_columns_l27 (x80 : List Int) (x1 : Int) : Int × Int → Option ((Int × Int) ⊕ (Unit ⊕ Unit)) := fun (x86, x87) =>
  if x87 < (x80.length : Int) then
    (getI x80 x87).bind fun x96 =>
    if ((decide (x96 ≤ x86)) || (decide (x1 ≤ x96))) = true then
      some (.inr (.inr ()))
    else
      some (.inl (x96, wa .i64 x87 1))
  else
    some (.inr (.inl ()))
def matrix_columns_l24 (x2 : Int) (x3 : List Int) (x5 : List Int) (x1 : Int) : Int → Option ((Int) ⊕ (Unit ⊕ Unit)) := fun x52 =>
  if x52 < x2 then
    (getI x3 x52).bind fun x78 =>
    (getI x3 (wa .i64 x52 1)).bind fun x79 =>
    (sli x5 x78 x79).bind fun x80 =>
    (loop (matrix_columns_l27 x80 x1) ((-1), 0)).bind (fun o => match o with
      | .inl () =>
        some (.inl (wa .i64 x52 1))
      | .inr () =>
        some (.inr (.inr ())))
  else
    some (.inr (.inl ()))
def matrix_columns (x1 : Int) (x2 : Int) (x3 : List Int) (x5 : List Int) (x7 : List Int) : Option (Bool) :=
  (if (x3.length : Int) = (wa .i64 x2 1) then
    (getI x3 0).bind fun x16 =>
    some (!(decide (x16 = 0)))
  else
    some true).bind fun r10 =>
  (if r10 = true then
    some true
  else
    (slices_IsSorted_int x3).bind fun r20 =>
    some (!(r20))).bind fun r11 =>
  (if r11 = true then
    some true
  else
    (getI x3 x2).bind fun x23 =>
    some (!(decide (x23 = (x5.length : Int))))).bind fun r12 =>
  (if r12 = true then
    some true
  else
    some (!(decide ((x5.length : Int) = (x7.length : Int))))).bind fun r13 =>
  if r13 = true then
    some false
  else
    (loop (matrix_columns_l24 x2 x3 x5 x1) 0).bind (fun o => match o with
      | .inl () =>
        some true
      | .inr () =>
        some false)

def float_parts (x1 : Int) : Option (Int × Int) :=
  some (wc .i64 (wand .u64 (wsrc .u64 x1 52) 2047), wand .u64 x1 4503599627370495)

def float_IsFinite (x1 : Int) : Option (Bool) :=
  (float_parts x1).bind fun r2 =>
  some (!(decide (r2.1 = 2047)))

def matrix_Check_1 (x1 : Int) : Option (Bool) :=
  (float_IsFinite x1).bind fun r2 =>
  some (!(r2))

def slices_IndexFunc_apiFloat_l1 (x1 : List Int) : Int → Option ((Int) ⊕ (Unit ⊕ Int)) := fun x7 =>
  if x7 < (x1.length : Int) then
    (getI x1 x7).bind fun x15 =>
    (matrix_Check_1 x15).bind fun r16 =>
    if r16 = true then
      some (.inr (.inr x7))
    else
      some (.inl (wa .i64 x7 1))
  else
    some (.inr (.inl ()))
def slices_IndexFunc_apiFloat (x1 : List Int) : Option (Int) :=
  (loop (slices_IndexFunc_apiFloat_l1 x1) 0).bind (fun o => match o with
    | .inl () =>
      some (-1)
    | .inr x13 =>
      some x13)

def slices_ContainsFunc_apiFloat (x1 : List Int) : Option (Bool) :=
  (slices_IndexFunc_apiFloat x1).bind fun r3 =>
  some (decide ((0 : Int) ≤ r3))

def matrix_Check (x1 : Int) (x2 : Int) (x3 : List Int) (x5 : List Int) (x7 : List Int) : Option (Int) :=
  (matrix_within x1 0 200).bind fun r10 =>
  (if r10 = true then
    (matrix_within x2 0 200).bind fun r15 =>
    some (!(r15))
  else
    some true).bind fun r12 =>
  if (r12 || (decide ((10000 : Int) < (x5.length : Int)))) = true then
    some 6
  else
    (matrix_columns x1 x2 x3 x5 x7).bind fun r19 =>
    if r19 = true then
      (slices_ContainsFunc_apiFloat x7).bind fun r21 =>
      if r21 = true then
        some 4
      else
        some 0
    else
      some 1

def matrix_entries_l4 (x3 : List Int) (x43 : Int) (x5 : List Int) (x7 : List Int) : (List (Int × Int × Int)) × Int → Option (((List (Int × Int × Int)) × Int) ⊕ (((List (Int × Int × Int))))) := fun (x90, x91) =>
  (getI x3 (wa .i64 x43 1)).bind fun x104 =>
  if x91 < x104 then
    (getI x5 x91).bind fun x106 =>
    (getI x7 x91).bind fun x107 =>
    (app x90 [(x106, x43, x107)]).bind fun x110 =>
    some (.inl (x110, wa .i64 x91 1))
  else
    some (.inr x90)
def matrix_entries_l3 (x2 : Int) (x3 : List Int) (x5 : List Int) (x7 : List Int) : (List (Int × Int × Int)) × Int → Option (((List (Int × Int × Int)) × Int) ⊕ (((List (Int × Int × Int))))) := fun (x42, x43) =>
  if x43 < x2 then
    (getI x3 x43).bind fun x81 =>
    (loop (matrix_entries_l4 x3 x43 x5 x7) (x42, x81)).bind fun x103 =>
    some (.inl (x103, wa .i64 x43 1))
  else
    some (.inr x42)
def matrix_entries (x1 : Int) (x2 : Int) (x3 : List Int) (x5 : List Int) (x7 : List Int) : Option ((List (Int × Int × Int))) :=
  (loop (matrix_entries_l3 x2 x3 x5 x7) ([], 0)).bind fun x79 =>
  some x79
end M
