/- Models of functions of the program, printed. -/
import Derived.Test.YthpeajepbffinaaM1
namespace M
open Sx
set_option linter.unusedVariables false
def dissect_border_1 (x1 : Int) (x3 : List Int) (x6 : Int) : Option (Bool) :=
 (getI x3 x1).bind fun x7 =>
 some (!(decide (x7 = x6)))

def slices_IndexFunc_int_v2_l1 (x1 : List Int) (x4 : List Int) (x7 : Int) : Int → Option ((Int) ⊕ (Unit ⊕ Int)) := fun x12 =>
 if x12 < (x1.length : Int) then
  (getI x1 x12).bind fun x20 =>
  (dissect_border_1 x20 x4 x7).bind fun r21 =>
  if r21 = true then
   some (.inr (.inr x12))
  else
   some (.inl (wa .i64 x12 1))
 else
  some (.inr (.inl ()))
def slices_IndexFunc_int_v2 (x1 : List Int) (x4 : List Int) (x7 : Int) : Option (Int) :=
 (loop (slices_IndexFunc_int_v2_l1 x1 x4 x7) 0).bind (fun o => match o with
  | .inl () =>
   some (-1)
  | .inr x18 =>
   some x18)

def slices_ContainsFunc_int_v2 (x1 : List Int) (x4 : List Int) (x7 : Int) : Option (Bool) :=
 (slices_IndexFunc_int_v2 x1 x4 x7).bind fun r8 =>
 some (decide ((0 : Int) ≤ r8))

def dissect_border_j13 (x29 : Int) (x66 : List Int) : Option (((List Int) × Int) ⊕ (((List Int)))) :=
 some (.inl (x66, wa .i64 x29 1))
def dissect_border_l9 (x1 : List (List Int)) (x3 : List Int) (x5 : Int) : (List Int) × Int → Option (((List Int) × Int) ⊕ (((List Int)))) := fun (x28, x29) =>
 if x29 < (x1.length : Int) then
  (getI x1 x29).bind fun x54 =>
  (getI x3 x29).bind fun x56 =>
  (if x56 = x5 then
   (slices_ContainsFunc_int_v2 x54 x3 x5).bind fun r61 =>
   some r61
  else
   some false).bind fun r57 =>
  if r57 = true then
   (app x28 [x29]).bind fun x70 =>
   dissect_border_j13 x29 x70
  else
   dissect_border_j13 x29 x28
 else
  some (.inr x28)
def dissect_border (x1 : List (List Int)) (x3 : List Int) (x5 : Int) : Option ((List Int)) :=
 (loop (dissect_border_l9 x1 x3 x5) ([], 0)).bind fun x52 =>
 some x52

def matrix_within (x1 : Int) (x2 : Int) (x3 : Int) : Option (Bool) :=
 some ((decide (x2 ≤ x1)) && (decide (x1 ≤ x3)))

def slices_IsSorted_int_l1 (x1 : List Int) : Int → Option ((Int) ⊕ (Unit ⊕ Unit)) := fun x8 =>
 if (0 : Int) < x8 then
  (getI x1 x8).bind fun x16 =>
  (getI x1 (ws .i64 x8 1)).bind fun x17 =>
  (cmp_Less_int x16 x17).bind fun r18 =>
  if r18 = true then
   some (.inr (.inr ()))
  else
   some (.inl (ws .i64 x8 1))
 else
  some (.inr (.inl ()))
def slices_IsSorted_int (x1 : List Int) : Option (Bool) :=
 (loop (slices_IsSorted_int_l1 x1) (ws .i64 (x1.length : Int) 1)).bind (fun o => match o with
  | .inl () =>
   some true
  | .inr () =>
   some false)

def matrix_columns_l27 (x84 : List Int) (x1 : Int) : Int × Int → Option ((Int × Int) ⊕ (Unit ⊕ Unit)) := fun (x90, x91) =>
 if x91 < (x84.length : Int) then
  (getI x84 x91).bind fun x100 =>
  if ((decide (x100 ≤ x90)) || (decide (x1 ≤ x100))) = true then
   some (.inr (.inr ()))
  else
   some (.inl (x100, wa .i64 x91 1))
 else
  some (.inr (.inl ()))
def matrix_columns_l24 (x2 : Int) (x3 : List Int) (x5 : List Int) (x1 : Int) : Int → Option ((Int) ⊕ (Unit ⊕ Unit)) := fun x56 =>
 if x56 < x2 then
  (getI x3 x56).bind fun x82 =>
  (getI x3 (wa .i64 x56 1)).bind fun x83 =>
  (sli x5 x82 x83).bind fun x84 =>
  (loop (matrix_columns_l27 x84 x1) ((-1), 0)).bind (fun o => match o with
   | .inl () =>
    some (.inl (wa .i64 x56 1))
   | .inr () =>
    some (.inr (.inr ())))
 else
  some (.inr (.inl ()))
def matrix_columns (x1 : Int) (x2 : Int) (x3 : List Int) (x5 : List Int) (x7 : List Int) : Option (Bool) :=
 (if (x3.length : Int) = (wa .i64 x2 1) then
  (getI x3 0).bind fun x20 =>
  some (!(decide (x20 = 0)))
 else
  some true).bind fun r10 =>
 (if r10 = true then
  some true
 else
  (slices_IsSorted_int x3).bind fun r24 =>
  some (!(r24))).bind fun r11 =>
 (if r11 = true then
  some true
 else
  (getI x3 x2).bind fun x27 =>
  some (!(decide (x27 = (x5.length : Int))))).bind fun r12 =>
 (if r12 = true then
  some true
 else
  some (!(decide ((x5.length : Int) = (x7.length : Int))))).bind fun r13 =>
 if r13 = true then
  some false
 else
  (loop (matrix_columns_l24 x2 x3 x5 x1) 0).bind (fun o => match o with
   | .inl () =>
    some true
   | .inr () =>
    some false)

def float_parts (x1 : Int) : Option (Int × Int) :=
 some (wc .i64 (wand .u64 (wsrc .u64 x1 52) 2047), wand .u64 x1 4503599627370495)

def float_IsFinite (x1 : Int) : Option (Bool) :=
 (float_parts x1).bind fun r2 =>
 some (!(decide (r2.1 = 2047)))

def matrix_Check_1 (x1 : Int) : Option (Bool) :=
 (float_IsFinite x1).bind fun r2 =>
 some (!(r2))

def slices_IndexFunc_apiFloat_l1 (x1 : List Int) : Int → Option ((Int) ⊕ (Unit ⊕ Int)) := fun x7 =>
 if x7 < (x1.length : Int) then
  (getI x1 x7).bind fun x15 =>
  (matrix_Check_1 x15).bind fun r16 =>
  if r16 = true then
   some (.inr (.inr x7))
  else
   some (.inl (wa .i64 x7 1))
 else
  some (.inr (.inl ()))
def slices_IndexFunc_apiFloat (x1 : List Int) : Option (Int) :=
 (loop (slices_IndexFunc_apiFloat_l1 x1) 0).bind (fun o => match o with
  | .inl () =>
   some (-1)
  | .inr x13 =>
   some x13)

def slices_ContainsFunc_apiFloat (x1 : List Int) : Option (Bool) :=
 (slices_IndexFunc_apiFloat x1).bind fun r3 =>
 some (decide ((0 : Int) ≤ r3))

def matrix_Check (x1 : Int) (x2 : Int) (x3 : List Int) (x5 : List Int) (x7 : List Int) : Option (Int) :=
 (matrix_within x1 0 200).bind fun r10 =>
 (if r10 = true then
  (matrix_within x2 0 200).bind fun r15 =>
  some (!(r15))
 else
  some true).bind fun r12 =>
 if (r12 || (decide ((10000 : Int) < (x5.length : Int)))) = true then
  some 6
 else
  (matrix_columns x1 x2 x3 x5 x7).bind fun r19 =>
  if r19 = true then
   (slices_ContainsFunc_apiFloat x7).bind fun r21 =>
   if r21 = true then
    some 4
   else
    some 0
  else
   some 1

def matching_Edges_l1 (x12 : List (List Int)) (x3 : List Int) (x5 : List Int) : (List (List Int)) × Int → Option (((List (List Int)) × Int) ⊕ (((List (List Int))))) := fun (x18, x19) =>
 if x19 < (x12.length : Int) then
  (getI x3 x19).bind fun x29 =>
  (getI x3 (wa .i64 x19 1)).bind fun x30 =>
  (sli x5 x29 x30).bind fun x31 =>
  (setI x18 x19 x31).bind fun x32 =>
  some (.inl (x32, wa .i64 x19 1))
 else
  some (.inr x18)
def matching_Edges (x1 : Int) (x2 : Int) (x3 : List Int) (x5 : List Int) (x7 : List Int) : Option ((List (List Int))) :=
 (mkL ([] : List Int) x2).bind fun x12 =>
 (loop (matching_Edges_l1 x12 x3 x5) (x12, 0)).bind fun x27 =>
 some x27
end M
