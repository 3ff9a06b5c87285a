/- Models of functions of the program, printed. -/
import Derived.Test.YtcknmegldjnjjaaTm
namespace M
open Sx
set_option linter.unusedVariables false
def graph_ascending_l3 (x1 : List Int) (x3 : Int) : Int × Int → Option ((Int × Int) ⊕ (Unit ⊕ Unit)) := fun (x9, x10) =>
  if x10 < (x1.length : Int) then
    (getI x1 x10).bind fun x19 =>
    if ((decide (x19 ≤ x9)) || (decide (x3 ≤ x19))) = true then
      some (.inr (.inr ()))
    else
      some (.inl (x19, wa .i64 x10 1))
  else
    some (.inr (.inl ()))
def graph_ascending (x1 : List Int) (x3 : Int) : Option (Bool) :=
  (loop (graph_ascending_l3 x1 x3) ((-1), 0)).bind (fun o => match o with
    | .inl () =>
      some true
    | .inr () =>
      some false)

def cmp_isNaN_int (x1 : Int) : Option (Bool) :=
  some (!(decide (x1 = x1)))

def cmp_Less_int (x1 : Int) (x2 : Int) : Option (Bool) :=
  (cmp_isNaN_int x1).bind fun r3 =>
  (if r3 = true then
    (cmp_isNaN_int x2).bind fun r8 =>
    some (!(r8))
  else
    some false).bind fun r5 =>
  some (r5 || (decide (x1 < x2)))

def slices_isNaN_int (x1 : Int) : Option (Bool) :=
  some (!(decide (x1 = x1)))

def slices_BinarySearch_int_j11 (x63 : Int) (x64 : Int) : Option ((Int × Int) ⊕ (Int)) :=
  some (.inl (x63, x64))
def slices_BinarySearch_int_l3 (x1 : List Int) (x3 : Int) : Int × Int → Option ((Int × Int) ⊕ (Int)) := fun (x10, x11) =>
  if x10 < x11 then
    (getI x1 (wc .i64 (wsrc .u64 (wc .u64 (wa .i64 x10 x11)) 1))).bind fun x61 =>
    (cmp_Less_int x61 x3).bind fun r62 =>
    if r62 = true then
      slices_BinarySearch_int_j11 (wa .i64 (wc .i64 (wsrc .u64 (wc .u64 (wa .i64 x10 x11)) 1)) 1) x11
    else
      slices_BinarySearch_int_j11 x10 (wc .i64 (wsrc .u64 (wc .u64 (wa .i64 x10 x11)) 1))
  else
    some (.inr x10)
def slices_BinarySearch_int (x1 : List Int) (x3 : Int) : Option (Int × Bool) :=
  (loop (slices_BinarySearch_int_l3 x1 x3) (0, (x1.length : Int))).bind fun x20 =>
  (if x20 < (x1.length : Int) then
    (getI x1 x20).bind fun x42 =>
    (if x42 = x3 then
      some true
    else
      (getI x1 x20).bind fun x53 =>
      (slices_isNaN_int x53).bind fun r54 =>
      (if r54 = true then
        (slices_isNaN_int x3).bind fun r59 =>
        some r59
      else
        some false).bind fun r56 =>
      some r56).bind fun r50 =>
    some r50
  else
    some false).bind fun r39 =>
  some (x20, r39)

def graph_joined (x1 : List (List Int)) (x3 : Int) (x4 : Int) : Option (Bool) :=
  (getI x1 x3).bind fun x6 =>
  (slices_BinarySearch_int x6 x4).bind fun r8 =>
  some r8.2

def graph_Check_l7 (x64 : List Int) (x1 : List (List Int)) (x44 : Int) : Int → Option ((Int) ⊕ (Unit ⊕ Unit)) := fun x70 =>
  if x70 < (x64.length : Int) then
    (getI x64 x70).bind fun x77 =>
    (graph_joined x1 x77 x44).bind fun r78 =>
    if r78 = true then
      some (.inl (wa .i64 x70 1))
    else
      some (.inr (.inr ()))
  else
    some (.inr (.inl ()))
def graph_Check_l6 (x1 : List (List Int)) : Int → Option ((Int) ⊕ (Unit ⊕ Unit)) := fun x44 =>
  if x44 < (x1.length : Int) then
    (getI x1 x44).bind fun x64 =>
    (loop (graph_Check_l7 x64 x1 x44) 0).bind (fun o => match o with
      | .inl () =>
        some (.inl (wa .i64 x44 1))
      | .inr () =>
        some (.inr (.inr ())))
  else
    some (.inr (.inl ()))
def graph_Check_l3 (x1 : List (List Int)) : Int → Option ((Int) ⊕ (Unit ⊕ Unit)) := fun x15 =>
  if x15 < (x1.length : Int) then
    (getI x1 x15).bind fun x81 =>
    (graph_ascending x81 (x1.length : Int)).bind fun r83 =>
    (if r83 = true then
      (graph_joined x1 x15 x15).bind fun r88 =>
      some r88
    else
      some true).bind fun r85 =>
    if r85 = true then
      some (.inr (.inr ()))
    else
      some (.inl (wa .i64 x15 1))
  else
    some (.inr (.inl ()))
def graph_Check (x1 : List (List Int)) : Option (Int) :=
  if (200 : Int) < (x1.length : Int) then
    some 6
  else
    (loop (graph_Check_l3 x1) 0).bind (fun o => match o with
      | .inl () =>
        (loop (graph_Check_l6 x1) 0).bind (fun o => match o with
          | .inl () =>
            some 0
          | .inr () =>
            some 1)
      | .inr () =>
        some 1)

def graph_vertex (x1 : List (List Int)) (x3 : Int) : Option (Bool) :=
  some ((decide ((0 : Int) ≤ x3)) && (decide (x3 < (x1.length : Int))))

def math_bits_Len64_j3 (x6 : Int) (x7 : Int) : Option (Int) :=
  (getI [0, 1, 2, 2, 3, 3, 3, 3, 4, 4, 4, 4, 4, 4, 4, 4, 5, 5, 5, 5, 5, 5, 5, 5, 5, 5, 5, 5, 5, 5, 5, 5, 6, 6, 6, 6, 6, 6, 6, 6, 6, 6, 6, 6, 6, 6, 6, 6, 6, 6, 6, 6, 6, 6, 6, 6, 6, 6, 6, 6, 6, 6, 6, 6, 7, 7, 7, 7, 7, 7, 7, 7, 7, 7, 7, 7, 7, 7, 7, 7, 7, 7, 7, 7, 7, 7, 7, 7, 7, 7, 7, 7, 7, 7, 7, 7, 7, 7, 7, 7, 7, 7, 7, 7, 7, 7, 7, 7, 7, 7, 7, 7, 7, 7, 7, 7, 7, 7, 7, 7, 7, 7, 7, 7, 7, 7, 7, 7, 8, 8, 8, 8, 8, 8, 8, 8, 8, 8, 8, 8, 8, 8, 8, 8, 8, 8, 8, 8, 8, 8, 8, 8, 8, 8, 8, 8, 8, 8, 8, 8, 8, 8, 8, 8, 8, 8, 8, 8, 8, 8, 8, 8, 8, 8, 8, 8, 8, 8, 8, 8, 8, 8, 8, 8, 8, 8, 8, 8, 8, 8, 8, 8, 8, 8, 8, 8, 8, 8, 8, 8, 8, 8, 8, 8, 8, 8, 8, 8, 8, 8, 8, 8, 8, 8, 8, 8, 8, 8, 8, 8, 8, 8, 8, 8, 8, 8, 8, 8, 8, 8, 8, 8, 8, 8, 8, 8, 8, 8, 8, 8, 8, 8, 8, 8, 8, 8, 8, 8, 8, 8, 8, 8, 8, 8, 8, 8] (wc .u8 x6)).bind fun x8 =>
  some (wa .i64 x7 (wc .i64 x8))
def math_bits_Len64_j2 (x4 : Int) (x5 : Int) : Option (Int) :=
  if (256 : Int) ≤ x4 then
    math_bits_Len64_j3 (wsrc .u64 x4 8) (wa .i64 x5 8)
  else
    math_bits_Len64_j3 x4 x5
def math_bits_Len64_j1 (x2 : Int) (x3 : Int) : Option (Int) :=
  if (65536 : Int) ≤ x2 then
    math_bits_Len64_j2 (wsrc .u64 x2 16) (wa .i64 x3 16)
  else
    math_bits_Len64_j2 x2 x3
def math_bits_Len64 (x1 : Int) : Option (Int) :=
  if (4294967296 : Int) ≤ x1 then
    math_bits_Len64_j1 (wsrc .u64 x1 32) 32
  else
    math_bits_Len64_j1 x1 0

def math_bits_Len (x1 : Int) : Option (Int) :=
  (math_bits_Len64 x1).bind fun r2 =>
  some r2

def slices_insertionSortOrdered_int_l28 (x3 : Int) : (List Int) × Int → Option (((List Int) × Int) ⊕ (((List Int)))) := fun (x100, x101) =>
  (if x3 < x101 then
    (getI x100 x101).bind fun x119 =>
    (getI x100 (ws .i64 x101 1)).bind fun x120 =>
    (cmp_Less_int x119 x120).bind fun r121 =>
    some r121
  else
    some false).bind fun r116 =>
  if r116 = true then
    (getI x100 (ws .i64 x101 1)).bind fun x123 =>
    (getI x100 x101).bind fun x124 =>
    (setI x100 x101 x123).bind fun x125 =>
    (setI x125 (ws .i64 x101 1) x124).bind fun x126 =>
    some (.inl (x126, ws .i64 x101 1))
  else
    some (.inr x100)
def slices_insertionSortOrdered_int_l21 (x4 : Int) (x3 : Int) : (List Int) × Int → Option (((List Int) × Int) ⊕ (((List Int)))) := fun (x44, x45) =>
  if x45 < x4 then
    (loop (slices_insertionSortOrdered_int_l28 x3) (x44, x45)).bind fun x115 =>
    some (.inl (x115, wa .i64 x45 1))
  else
    some (.inr x44)
def slices_insertionSortOrdered_int (x1 : List Int) (x3 : Int) (x4 : Int) : Option ((List Int)) :=
  (loop (slices_insertionSortOrdered_int_l21 x4 x3) (x1, wa .i64 x3 1)).bind fun x87 =>
  some x87

def slices_order2Ordered_int (x1 : List Int) (x3 : Int) (x4 : Int) (x6 : Int) : Option (Int × Int × Int) :=
  (getI x1 x4).bind fun x7 =>
  (getI x1 x3).bind fun x8 =>
  (cmp_Less_int x7 x8).bind fun r9 =>
  if r9 = true then
    some (wa .i64 x6 1, x4, x3)
  else
    some (x6, x3, x4)
end M
