/- Models of functions of the program, printed. -/
import Derived.Test.YtoelidgkfpmgnaaM2
namespace M
open Sx
set_option linter.unusedVariables false
def sparselaw19_EtreeMade (x1 : Int) (x2 : List Int) : Option (Bool) :=
  if (80 : Int) < (x2.length : Int) then
    (sparselaw19_awake).bind fun r5 =>
    some r5
  else
    (sparsekit_Place x1 13).bind fun r6 =>
    (sparsemake_Graph r6 x2).bind fun r7 =>
    (etree_Parent r7).bind fun r10 =>
    (sparseref19_Parent r7).bind fun r12 =>
    (if r10.2 = 0 then
      (sparsekit_Ints r10.1 r12.1).bind fun r18 =>
      some (!(r18))
    else
      some true).bind fun r15 =>
    if r15 = true then
      some false
    else
      (etree_Postorder r10.1).bind fun r20 =>
      (sparseref19_Postorder r12.1).bind fun r22 =>
      (etree_Depths r10.1).bind fun r24 =>
      (sparseref19_Depths r12.1).bind fun r26 =>
      (etree_Sizes r10.1).bind fun r28 =>
      (sparseref19_Sizes r12.1).bind fun r30 =>
      (if (((decide (r20.2 = 0)) && (decide (r24.2 = 0))) && (decide (r28.2 = 0))) = true then
        (sparsekit_Ints r20.1 r22.1).bind fun r40 =>
        some r40
      else
        some false).bind fun r37 =>
      (if r37 = true then
        (sparsekit_Ints r24.1 r26.1).bind fun r45 =>
        some r45
      else
        some false).bind fun r42 =>
      (if r42 = true then
        (sparsekit_Ints r28.1 r30.1).bind fun r50 =>
        some r50
      else
        some false).bind fun r47 =>
      (if r47 = true then
        (sparselaw19_awake).bind fun r55 =>
        some r55
      else
        some false).bind fun r52 =>
      some r52

def math_bits_Len64_j3 (x6 : Int) (x7 : Int) : Option (Int) :=
  (getI [0, 1, 2, 2, 3, 3, 3, 3, 4, 4, 4, 4, 4, 4, 4, 4, 5, 5, 5, 5, 5, 5, 5, 5, 5, 5, 5, 5, 5, 5, 5, 5, 6, 6, 6, 6, 6, 6, 6, 6, 6, 6, 6, 6, 6, 6, 6, 6, 6, 6, 6, 6, 6, 6, 6, 6, 6, 6, 6, 6, 6, 6, 6, 6, 7, 7, 7, 7, 7, 7, 7, 7, 7, 7, 7, 7, 7, 7, 7, 7, 7, 7, 7, 7, 7, 7, 7, 7, 7, 7, 7, 7, 7, 7, 7, 7, 7, 7, 7, 7, 7, 7, 7, 7, 7, 7, 7, 7, 7, 7, 7, 7, 7, 7, 7, 7, 7, 7, 7, 7, 7, 7, 7, 7, 7, 7, 7, 7, 8, 8, 8, 8, 8, 8, 8, 8, 8, 8, 8, 8, 8, 8, 8, 8, 8, 8, 8, 8, 8, 8, 8, 8, 8, 8, 8, 8, 8, 8, 8, 8, 8, 8, 8, 8, 8, 8, 8, 8, 8, 8, 8, 8, 8, 8, 8, 8, 8, 8, 8, 8, 8, 8, 8, 8, 8, 8, 8, 8, 8, 8, 8, 8, 8, 8, 8, 8, 8, 8, 8, 8, 8, 8, 8, 8, 8, 8, 8, 8, 8, 8, 8, 8, 8, 8, 8, 8, 8, 8, 8, 8, 8, 8, 8, 8, 8, 8, 8, 8, 8, 8, 8, 8, 8, 8, 8, 8, 8, 8, 8, 8, 8, 8, 8, 8, 8, 8, 8, 8, 8, 8, 8, 8, 8, 8, 8, 8] (wc .u8 x6)).bind fun x8 =>
  some (wa .i64 x7 (wc .i64 x8))
def math_bits_Len64_j2 (x4 : Int) (x5 : Int) : Option (Int) :=
  if (256 : Int) ≤ x4 then
    math_bits_Len64_j3 (wsrc .u64 x4 8) (wa .i64 x5 8)
  else
    math_bits_Len64_j3 x4 x5
def math_bits_Len64_j1 (x2 : Int) (x3 : Int) : Option (Int) :=
  if (65536 : Int) ≤ x2 then
    math_bits_Len64_j2 (wsrc .u64 x2 16) (wa .i64 x3 16)
  else
    math_bits_Len64_j2 x2 x3
def math_bits_Len64 (x1 : Int) : Option (Int) :=
  if (4294967296 : Int) ≤ x1 then
    math_bits_Len64_j1 (wsrc .u64 x1 32) 32
  else
    math_bits_Len64_j1 x1 0

def math_bits_Len (x1 : Int) : Option (Int) :=
  (math_bits_Len64 x1).bind fun r2 =>
  some r2

def slices_insertionSortOrdered_int_l28 (x3 : Int) : (List Int) × Int → Option (((List Int) × Int) ⊕ (((List Int)))) := fun (x100, x101) =>
  (if x3 < x101 then
    (getI x100 x101).bind fun x119 =>
    (getI x100 (ws .i64 x101 1)).bind fun x120 =>
    (cmp_Less_int x119 x120).bind fun r121 =>
    some r121
  else
    some false).bind fun r116 =>
  if r116 = true then
    (getI x100 (ws .i64 x101 1)).bind fun x123 =>
    (getI x100 x101).bind fun x124 =>
    (setI x100 x101 x123).bind fun x125 =>
    (setI x125 (ws .i64 x101 1) x124).bind fun x126 =>
    some (.inl (x126, ws .i64 x101 1))
  else
    some (.inr x100)
def slices_insertionSortOrdered_int_l21 (x4 : Int) (x3 : Int) : (List Int) × Int → Option (((List Int) × Int) ⊕ (((List Int)))) := fun (x44, x45) =>
  if x45 < x4 then
    (loop (slices_insertionSortOrdered_int_l28 x3) (x44, x45)).bind fun x115 =>
    some (.inl (x115, wa .i64 x45 1))
  else
    some (.inr x44)
def slices_insertionSortOrdered_int (x1 : List Int) (x3 : Int) (x4 : Int) : Option ((List Int)) :=
  (loop (slices_insertionSortOrdered_int_l21 x4 x3) (x1, wa .i64 x3 1)).bind fun x87 =>
  some x87

def slices_order2Ordered_int (x1 : List Int) (x3 : Int) (x4 : Int) (x6 : Int) : Option (Int × Int × Int) :=
  (getI x1 x4).bind fun x7 =>
  (getI x1 x3).bind fun x8 =>
  (cmp_Less_int x7 x8).bind fun r9 =>
  if r9 = true then
    some (wa .i64 x6 1, x4, x3)
  else
    some (x6, x3, x4)

def slices_medianOrdered_int (x1 : List Int) (x3 : Int) (x4 : Int) (x5 : Int) (x7 : Int) : Option (Int × Int) :=
  (slices_order2Ordered_int x1 x3 x4 x7).bind fun r8 =>
  (slices_order2Ordered_int x1 r8.2.2 x5 r8.1).bind fun r9 =>
  (slices_order2Ordered_int x1 r8.2.1 r9.2.1 r9.1).bind fun r10 =>
  some (r10.1, r10.2.2)

def slices_medianAdjacentOrdered_int (x1 : List Int) (x3 : Int) (x5 : Int) : Option (Int × Int) :=
  (slices_medianOrdered_int x1 (ws .i64 x3 1) x3 (wa .i64 x3 1) x5).bind fun r6 =>
  some (r6.1, r6.2)

def slices_choosePivotOrdered_int_j2 (x18 : Int) (x19 : Int) : Option (Int × Int) :=
  if x18 = 0 then
    some (x19, 1)
  else
    if x18 = 12 then
      some (x19, 2)
    else
      some (x19, 0)
def slices_choosePivotOrdered_int_j3 (x1 : List Int) (x26 : Int) (x27 : Int) (x28 : Int) (x29 : Int) : Option (Int × Int) :=
  (slices_medianOrdered_int x1 x27 x28 x29 x26).bind fun r30 =>
  slices_choosePivotOrdered_int_j2 r30.1 r30.2
def slices_choosePivotOrdered_int (x1 : List Int) (x3 : Int) (x4 : Int) : Option (Int × Int) :=
  if (8 : Int) ≤ (ws .i64 x4 x3) then
    if (50 : Int) ≤ (ws .i64 x4 x3) then
      (slices_medianAdjacentOrdered_int x1 (wa .i64 x3 (wm .i64 (wqc .i64 (ws .i64 x4 x3) 4) 1)) 0).bind fun r32 =>
      (slices_medianAdjacentOrdered_int x1 (wa .i64 x3 (wm .i64 (wqc .i64 (ws .i64 x4 x3) 4) 2)) r32.1).bind fun r33 =>
      (slices_medianAdjacentOrdered_int x1 (wa .i64 x3 (wm .i64 (wqc .i64 (ws .i64 x4 x3) 4) 3)) r33.1).bind fun r34 =>
      slices_choosePivotOrdered_int_j3 x1 r34.1 r32.2 r33.2 r34.2
    else
      slices_choosePivotOrdered_int_j3 x1 0 (wa .i64 x3 (wm .i64 (wqc .i64 (ws .i64 x4 x3) 4) 1)) (wa .i64 x3 (wm .i64 (wqc .i64 (ws .i64 x4 x3) 4) 2)) (wa .i64 x3 (wm .i64 (wqc .i64 (ws .i64 x4 x3) 4) 3))
  else
    slices_choosePivotOrdered_int_j2 0 (wa .i64 x3 (wm .i64 (wqc .i64 (ws .i64 x4 x3) 4) 2))

def slices_pdqsortOrdered_int_l11 (x4 : Int) (x3 : Int) (x1 : List Int) (x5 : Int) : Unit → Option ((Unit) ⊕ (((List Int)))) := fun _ =>
  if (ws .i64 x4 x3) ≤ 12 then
    (slices_insertionSortOrdered_int x1 x3 x4).bind fun r37 =>
    some (.inr r37)
  else
    if x5 = 0 then
      none
    else
      none
def slices_pdqsortOrdered_int (x1 : List Int) (x3 : Int) (x4 : Int) (x5 : Int) : Option ((List Int)) :=
  (loop (slices_pdqsortOrdered_int_l11 x4 x3 x1 x5) ()).bind fun x32 =>
  some x32

def slices_Sort_int (x1 : List Int) : Option ((List Int)) :=
  (math_bits_Len (wc .u64 (x1.length : Int))).bind fun r3 =>
  (slices_pdqsortOrdered_int x1 0 (x1.length : Int) r3).bind fun r4 =>
  some r4

def graph_levels_j40 (x572 : Int) (x602 : List Bool) (x604 : List Int) : Option (((List Bool) × (List Int) × Int) ⊕ (((List Bool) × (List Int)))) :=
  some (.inl (x602, x604, wa .i64 x572 1))
def graph_levels_l39 (x552 : List Int) : (List Bool) × (List Int) × Int → Option (((List Bool) × (List Int) × Int) ⊕ (((List Bool) × (List Int)))) := fun (x569, x571, x572) =>
  if x572 < (x552.length : Int) then
    (getI x552 x572).bind fun x596 =>
    (getI x569 x596).bind fun x597 =>
    if x597 = true then
      graph_levels_j40 x572 x569 x571
    else
      (setI x569 x596 true).bind fun x606 =>
      (app x571 [x596]).bind fun x609 =>
      graph_levels_j40 x572 x606 x609
  else
    some (.inr (x569, x571))
def graph_levels_l36 (x210 : List Int) (x1 : List (List Int)) : (List Bool) × (List Int) × Int → Option (((List Bool) × (List Int) × Int) ⊕ (((List Bool) × (List Int)))) := fun (x478, x480, x481) =>
  if x481 < (x210.length : Int) then
    (getI x210 x481).bind fun x551 =>
    (getI x1 x551).bind fun x552 =>
    (loop (graph_levels_l39 x552) (x478, x480, 0)).bind fun (x592, x594) =>
    some (.inl (x592, x594, wa .i64 x481 1))
  else
    some (.inr (x478, x480))
def graph_levels_l27 (x1 : List (List Int)) : (List Bool) × (List (List Int)) × (List Int) → Option (((List Bool) × (List (List Int)) × (List Int)) ⊕ (((List (List Int))))) := fun (x206, x208, x210) =>
  if (0 : Int) < (x210.length : Int) then
    (app x208 [x210]).bind fun x417 =>
    (loop (graph_levels_l36 x210 x1) (x206, [], 0)).bind fun (x546, x548) =>
    (slices_Sort_int x548).bind fun r549 =>
    some (.inl (x546, x417, r549))
  else
    some (.inr x208)
def graph_levels (x1 : List (List Int)) (x3 : Int) : Option ((List (List Int))) :=
  (mkL false (x1.length : Int)).bind fun x7 =>
  (setI x7 x3 true).bind fun x8 =>
  (loop (graph_levels_l27 x1) (x8, [], [x3])).bind fun x413 =>
  some x413

def slices_Grow_int_j2 (x7 : List Int) : Option ((List Int)) :=
  some x7
def slices_Grow_int_j1 (x1 : Int) : Option ((List Int)) :=
  if (0 : Int) < (ws .i64 x1 (ws .i64 0 0)) then
    (mkLp 0 (ws .i64 x1 (ws .i64 0 0))).bind fun x10 =>
    (sli x10 0 0).bind fun x11 =>
    slices_Grow_int_j2 x11
  else
    slices_Grow_int_j2 []
def slices_Grow_int (x1 : Int) : Option ((List Int)) :=
  if x1 < 0 then
    none
  else
    slices_Grow_int_j1 x1

def slices_Concat_int_l4 (x1 : List (List Int)) : (List Int) × Int → Option (((List Int) × Int) ⊕ (((List Int)))) := fun (x24, x25) =>
  if x25 < (x1.length : Int) then
    (getI x1 x25).bind fun x37 =>
    (app x24 x37).bind fun x40 =>
    some (.inl (x40, wa .i64 x25 1))
  else
    some (.inr x24)
def slices_Concat_int_j5 (x7 : Int) (x42 : List Int) (x8 : Int) : Option ((Int × Int) ⊕ (Int)) :=
  some (.inl (wa .i64 x7 (x42.length : Int), wa .i64 x8 1))
def slices_Concat_int_l3 (x1 : List (List Int)) : Int × Int → Option ((Int × Int) ⊕ (Int)) := fun (x7, x8) =>
  if x8 < (x1.length : Int) then
    (getI x1 x8).bind fun x42 =>
    if (wa .i64 x7 (x42.length : Int)) < 0 then
      none
    else
      slices_Concat_int_j5 x7 x42 x8
  else
    some (.inr x7)
def slices_Concat_int (x1 : List (List Int)) : Option ((List Int)) :=
  (loop (slices_Concat_int_l3 x1) (0, 0)).bind fun x15 =>
  (slices_Grow_int x15).bind fun r16 =>
  (loop (slices_Concat_int_l4 x1) (r16, 0)).bind fun x35 =>
  some x35

def graph_Components_j12 (x88 : Int) (x220 : List Bool) (x222 : List (List Int)) : Option (((List Bool) × (List (List Int)) × Int) ⊕ (((List (List Int))))) :=
  some (.inl (x220, x222, wa .i64 x88 1))
def graph_Components_l13 (r229 : (List Int)) : (List Bool) × Int → Option (((List Bool) × Int) ⊕ (((List Bool)))) := fun (x233, x234) =>
  if x234 < (r229.length : Int) then
    (getI r229 x234).bind fun x245 =>
    (setI x233 x245 true).bind fun x246 =>
    some (.inl (x246, wa .i64 x234 1))
  else
    some (.inr x233)
def graph_Components_l9 (x1 : List (List Int)) : (List Bool) × (List (List Int)) × Int → Option (((List Bool) × (List (List Int)) × Int) ⊕ (((List (List Int))))) := fun (x85, x87, x88) =>
  if x88 < (x1.length : Int) then
    (getI x85 x88).bind fun x223 =>
    if x223 = true then
      graph_Components_j12 x88 x85 x87
    else
      (graph_levels x1 x88).bind fun r225 =>
      (slices_Concat_int r225).bind fun r227 =>
      (slices_Sort_int r227).bind fun r229 =>
      (loop (graph_Components_l13 r229) (x85, 0)).bind fun x240 =>
      (app x87 [r229]).bind fun x243 =>
      graph_Components_j12 x88 x240 x243
  else
    some (.inr x87)
def graph_Components (x1 : List (List Int)) : Option ((List (List Int))) :=
  (graph_Check x1).bind fun r4 =>
  if r4 = 0 then
    (mkL false (x1.length : Int)).bind fun x8 =>
    (loop (graph_Components_l9 x1) (x8, [], 0)).bind fun x170 =>
    some x170
  else
    some []
end M
