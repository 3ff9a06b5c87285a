/- Models of functions of the program, printed. -/
import Derived.Test.YtoelidgkfpmgnaaM4
namespace M
open Sx
set_option linter.unusedVariables false
def slices_IndexFunc_int_l1 (x1 : List Int) (x4 : List (List Int)) : Int → Option ((Int) ⊕ (Unit ⊕ Int)) := fun x10 =>
  if x10 < (x1.length : Int) then
    (getI x1 x10).bind fun x18 =>
    (graph_Permuted_1 x18 x4).bind fun r19 =>
    if r19 = true then
      some (.inr (.inr x10))
    else
      some (.inl (wa .i64 x10 1))
  else
    some (.inr (.inl ()))
def slices_IndexFunc_int (x1 : List Int) (x4 : List (List Int)) : Option (Int) :=
  (loop (slices_IndexFunc_int_l1 x1 x4) 0).bind (fun o => match o with
    | .inl () =>
      some (-1)
    | .inr x16 =>
      some x16)

def slices_ContainsFunc_int (x1 : List Int) (x4 : List (List Int)) : Option (Bool) :=
  (slices_IndexFunc_int x1 x4).bind fun r6 =>
  some (decide ((0 : Int) ≤ r6))

def slices_Values_int (x1 : List Int) : Option (Unit) :=
  some ()

def slices_Collect_int (x2 : List Int) : Option ((List Int)) :=
  (colV x2).bind fun r4 =>
  some r4

def math_bits_Len64_j3 (x6 : Int) (x7 : Int) : Option (Int) :=
  (getI [0, 1, 2, 2, 3, 3, 3, 3, 4, 4, 4, 4, 4, 4, 4, 4, 5, 5, 5, 5, 5, 5, 5, 5, 5, 5, 5, 5, 5, 5, 5, 5, 6, 6, 6, 6, 6, 6, 6, 6, 6, 6, 6, 6, 6, 6, 6, 6, 6, 6, 6, 6, 6, 6, 6, 6, 6, 6, 6, 6, 6, 6, 6, 6, 7, 7, 7, 7, 7, 7, 7, 7, 7, 7, 7, 7, 7, 7, 7, 7, 7, 7, 7, 7, 7, 7, 7, 7, 7, 7, 7, 7, 7, 7, 7, 7, 7, 7, 7, 7, 7, 7, 7, 7, 7, 7, 7, 7, 7, 7, 7, 7, 7, 7, 7, 7, 7, 7, 7, 7, 7, 7, 7, 7, 7, 7, 7, 7, 8, 8, 8, 8, 8, 8, 8, 8, 8, 8, 8, 8, 8, 8, 8, 8, 8, 8, 8, 8, 8, 8, 8, 8, 8, 8, 8, 8, 8, 8, 8, 8, 8, 8, 8, 8, 8, 8, 8, 8, 8, 8, 8, 8, 8, 8, 8, 8, 8, 8, 8, 8, 8, 8, 8, 8, 8, 8, 8, 8, 8, 8, 8, 8, 8, 8, 8, 8, 8, 8, 8, 8, 8, 8, 8, 8, 8, 8, 8, 8, 8, 8, 8, 8, 8, 8, 8, 8, 8, 8, 8, 8, 8, 8, 8, 8, 8, 8, 8, 8, 8, 8, 8, 8, 8, 8, 8, 8, 8, 8, 8, 8, 8, 8, 8, 8, 8, 8, 8, 8, 8, 8, 8, 8, 8, 8, 8, 8] (wc .u8 x6)).bind fun x8 =>
  some (wa .i64 x7 (wc .i64 x8))
def math_bits_Len64_j2 (x4 : Int) (x5 : Int) : Option (Int) :=
  if (256 : Int) ≤ x4 then
    math_bits_Len64_j3 (wsrc .u64 x4 8) (wa .i64 x5 8)
  else
    math_bits_Len64_j3 x4 x5
def math_bits_Len64_j1 (x2 : Int) (x3 : Int) : Option (Int) :=
  if (65536 : Int) ≤ x2 then
    math_bits_Len64_j2 (wsrc .u64 x2 16) (wa .i64 x3 16)
  else
    math_bits_Len64_j2 x2 x3
def math_bits_Len64 (x1 : Int) : Option (Int) :=
  if (4294967296 : Int) ≤ x1 then
    math_bits_Len64_j1 (wsrc .u64 x1 32) 32
  else
    math_bits_Len64_j1 x1 0

def math_bits_Len (x1 : Int) : Option (Int) :=
  (math_bits_Len64 x1).bind fun r2 =>
  some r2

def slices_insertionSortOrdered_int_l28 (x3 : Int) : (List Int) × Int → Option (((List Int) × Int) ⊕ (((List Int)))) := fun (x100, x101) =>
  (if x3 < x101 then
    (getI x100 x101).bind fun x119 =>
    (getI x100 (ws .i64 x101 1)).bind fun x120 =>
    (cmp_Less_int x119 x120).bind fun r121 =>
    some r121
  else
    some false).bind fun r116 =>
  if r116 = true then
    (getI x100 (ws .i64 x101 1)).bind fun x123 =>
    (getI x100 x101).bind fun x124 =>
    (setI x100 x101 x123).bind fun x125 =>
    (setI x125 (ws .i64 x101 1) x124).bind fun x126 =>
    some (.inl (x126, ws .i64 x101 1))
  else
    some (.inr x100)
def slices_insertionSortOrdered_int_l21 (x4 : Int) (x3 : Int) : (List Int) × Int → Option (((List Int) × Int) ⊕ (((List Int)))) := fun (x44, x45) =>
  if x45 < x4 then
    (loop (slices_insertionSortOrdered_int_l28 x3) (x44, x45)).bind fun x115 =>
    some (.inl (x115, wa .i64 x45 1))
  else
    some (.inr x44)
def slices_insertionSortOrdered_int (x1 : List Int) (x3 : Int) (x4 : Int) : Option ((List Int)) :=
  (loop (slices_insertionSortOrdered_int_l21 x4 x3) (x1, wa .i64 x3 1)).bind fun x87 =>
  some x87

def slices_order2Ordered_int (x1 : List Int) (x3 : Int) (x4 : Int) (x6 : Int) : Option (Int × Int × Int) :=
  (getI x1 x4).bind fun x7 =>
  (getI x1 x3).bind fun x8 =>
  (cmp_Less_int x7 x8).bind fun r9 =>
  if r9 = true then
    some (wa .i64 x6 1, x4, x3)
  else
    some (x6, x3, x4)

def slices_medianOrdered_int (x1 : List Int) (x3 : Int) (x4 : Int) (x5 : Int) (x7 : Int) : Option (Int × Int) :=
  (slices_order2Ordered_int x1 x3 x4 x7).bind fun r8 =>
  (slices_order2Ordered_int x1 r8.2.2 x5 r8.1).bind fun r9 =>
  (slices_order2Ordered_int x1 r8.2.1 r9.2.1 r9.1).bind fun r10 =>
  some (r10.1, r10.2.2)

def slices_medianAdjacentOrdered_int (x1 : List Int) (x3 : Int) (x5 : Int) : Option (Int × Int) :=
  (slices_medianOrdered_int x1 (ws .i64 x3 1) x3 (wa .i64 x3 1) x5).bind fun r6 =>
  some (r6.1, r6.2)

def slices_choosePivotOrdered_int_j2 (x18 : Int) (x19 : Int) : Option (Int × Int) :=
  if x18 = 0 then
    some (x19, 1)
  else
    if x18 = 12 then
      some (x19, 2)
    else
      some (x19, 0)
def slices_choosePivotOrdered_int_j3 (x1 : List Int) (x26 : Int) (x27 : Int) (x28 : Int) (x29 : Int) : Option (Int × Int) :=
  (slices_medianOrdered_int x1 x27 x28 x29 x26).bind fun r30 =>
  slices_choosePivotOrdered_int_j2 r30.1 r30.2
def slices_choosePivotOrdered_int (x1 : List Int) (x3 : Int) (x4 : Int) : Option (Int × Int) :=
  if (8 : Int) ≤ (ws .i64 x4 x3) then
    if (50 : Int) ≤ (ws .i64 x4 x3) then
      (slices_medianAdjacentOrdered_int x1 (wa .i64 x3 (wm .i64 (wqc .i64 (ws .i64 x4 x3) 4) 1)) 0).bind fun r32 =>
      (slices_medianAdjacentOrdered_int x1 (wa .i64 x3 (wm .i64 (wqc .i64 (ws .i64 x4 x3) 4) 2)) r32.1).bind fun r33 =>
      (slices_medianAdjacentOrdered_int x1 (wa .i64 x3 (wm .i64 (wqc .i64 (ws .i64 x4 x3) 4) 3)) r33.1).bind fun r34 =>
      slices_choosePivotOrdered_int_j3 x1 r34.1 r32.2 r33.2 r34.2
    else
      slices_choosePivotOrdered_int_j3 x1 0 (wa .i64 x3 (wm .i64 (wqc .i64 (ws .i64 x4 x3) 4) 1)) (wa .i64 x3 (wm .i64 (wqc .i64 (ws .i64 x4 x3) 4) 2)) (wa .i64 x3 (wm .i64 (wqc .i64 (ws .i64 x4 x3) 4) 3))
  else
    slices_choosePivotOrdered_int_j2 0 (wa .i64 x3 (wm .i64 (wqc .i64 (ws .i64 x4 x3) 4) 2))

def slices_pdqsortOrdered_int_l11 (x4 : Int) (x3 : Int) (x1 : List Int) (x5 : Int) : Unit → Option ((Unit) ⊕ (((List Int)))) := fun _ =>
  if (ws .i64 x4 x3) ≤ 12 then
    (slices_insertionSortOrdered_int x1 x3 x4).bind fun r37 =>
    some (.inr r37)
  else
    if x5 = 0 then
      none
    else
      none
def slices_pdqsortOrdered_int (x1 : List Int) (x3 : Int) (x4 : Int) (x5 : Int) : Option ((List Int)) :=
  (loop (slices_pdqsortOrdered_int_l11 x4 x3 x1 x5) ()).bind fun x32 =>
  some x32

def slices_Sort_int (x1 : List Int) : Option ((List Int)) :=
  (math_bits_Len (wc .u64 (x1.length : Int))).bind fun r3 =>
  (slices_pdqsortOrdered_int x1 0 (x1.length : Int) r3).bind fun r4 =>
  some r4

def slices_Sorted_int (x2 : List Int) : Option ((List Int)) :=
  (slices_Collect_int x2).bind fun r4 =>
  (slices_Sort_int r4).bind fun r6 =>
  some r6
end M
