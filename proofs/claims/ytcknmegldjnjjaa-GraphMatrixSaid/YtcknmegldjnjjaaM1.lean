/- Models of functions of the program, printed. -/
import Derived.Test.YtcknmegldjnjjaaM0
namespace M
open Sx
set_option linter.unusedVariables false
def slices_medianOrdered_int (x1 : List Int) (x3 : Int) (x4 : Int) (x5 : Int) (x7 : Int) : Option (Int × Int) :=
  (slices_order2Ordered_int x1 x3 x4 x7).bind fun r8 =>
  (slices_order2Ordered_int x1 r8.2.2 x5 r8.1).bind fun r9 =>
  (slices_order2Ordered_int x1 r8.2.1 r9.2.1 r9.1).bind fun r10 =>
  some (r10.1, r10.2.2)

def slices_medianAdjacentOrdered_int (x1 : List Int) (x3 : Int) (x5 : Int) : Option (Int × Int) :=
  (slices_medianOrdered_int x1 (ws .i64 x3 1) x3 (wa .i64 x3 1) x5).bind fun r6 =>
  some (r6.1, r6.2)

def slices_choosePivotOrdered_int_j2 (x18 : Int) (x19 : Int) : Option (Int × Int) :=
  if x18 = 0 then
    some (x19, 1)
  else
    if x18 = 12 then
      some (x19, 2)
    else
      some (x19, 0)
def slices_choosePivotOrdered_int_j3 (x1 : List Int) (x26 : Int) (x27 : Int) (x28 : Int) (x29 : Int) : Option (Int × Int) :=
  (slices_medianOrdered_int x1 x27 x28 x29 x26).bind fun r30 =>
  slices_choosePivotOrdered_int_j2 r30.1 r30.2
def slices_choosePivotOrdered_int (x1 : List Int) (x3 : Int) (x4 : Int) : Option (Int × Int) :=
  if (8 : Int) ≤ (ws .i64 x4 x3) then
    if (50 : Int) ≤ (ws .i64 x4 x3) then
      (slices_medianAdjacentOrdered_int x1 (wa .i64 x3 (wm .i64 (wqc .i64 (ws .i64 x4 x3) 4) 1)) 0).bind fun r32 =>
      (slices_medianAdjacentOrdered_int x1 (wa .i64 x3 (wm .i64 (wqc .i64 (ws .i64 x4 x3) 4) 2)) r32.1).bind fun r33 =>
      (slices_medianAdjacentOrdered_int x1 (wa .i64 x3 (wm .i64 (wqc .i64 (ws .i64 x4 x3) 4) 3)) r33.1).bind fun r34 =>
      slices_choosePivotOrdered_int_j3 x1 r34.1 r32.2 r33.2 r34.2
    else
      slices_choosePivotOrdered_int_j3 x1 0 (wa .i64 x3 (wm .i64 (wqc .i64 (ws .i64 x4 x3) 4) 1)) (wa .i64 x3 (wm .i64 (wqc .i64 (ws .i64 x4 x3) 4) 2)) (wa .i64 x3 (wm .i64 (wqc .i64 (ws .i64 x4 x3) 4) 3))
  else
    slices_choosePivotOrdered_int_j2 0 (wa .i64 x3 (wm .i64 (wqc .i64 (ws .i64 x4 x3) 4) 2))

def slices_pdqsortOrdered_int_l11 (x4 : Int) (x3 : Int) (x1 : List Int) (x5 : Int) : Unit → Option ((Unit) ⊕ (((List Int)))) := fun _ =>
  if (ws .i64 x4 x3) ≤ 12 then
    (slices_insertionSortOrdered_int x1 x3 x4).bind fun r37 =>
    some (.inr r37)
  else
    if x5 = 0 then
      none
    else
      none
def slices_pdqsortOrdered_int (x1 : List Int) (x3 : Int) (x4 : Int) (x5 : Int) : Option ((List Int)) :=
  (loop (slices_pdqsortOrdered_int_l11 x4 x3 x1 x5) ()).bind fun x32 =>
  some x32

def slices_Sort_int (x1 : List Int) : Option ((List Int)) :=
  (math_bits_Len (wc .u64 (x1.length : Int))).bind fun r3 =>
  (slices_pdqsortOrdered_int x1 0 (x1.length : Int) r3).bind fun r4 =>
  some r4

def graph_levels_j40 (x572 : Int) (x602 : List Bool) (x604 : List Int) : Option (((List Bool) × (List Int) × Int) ⊕ (((List Bool) × (List Int)))) :=
  some (.inl (x602, x604, wa .i64 x572 1))
def graph_levels_l39 (x552 : List Int) : (List Bool) × (List Int) × Int → Option (((List Bool) × (List Int) × Int) ⊕ (((List Bool) × (List Int)))) := fun (x569, x571, x572) =>
  if x572 < (x552.length : Int) then
    (getI x552 x572).bind fun x596 =>
    (getI x569 x596).bind fun x597 =>
    if x597 = true then
      graph_levels_j40 x572 x569 x571
    else
      (setI x569 x596 true).bind fun x606 =>
      (app x571 [x596]).bind fun x609 =>
      graph_levels_j40 x572 x606 x609
  else
    some (.inr (x569, x571))
def graph_levels_l36 (x210 : List Int) (x1 : List (List Int)) : (List Bool) × (List Int) × Int → Option (((List Bool) × (List Int) × Int) ⊕ (((List Bool) × (List Int)))) := fun (x478, x480, x481) =>
  if x481 < (x210.length : Int) then
    (getI x210 x481).bind fun x551 =>
    (getI x1 x551).bind fun x552 =>
    (loop (graph_levels_l39 x552) (x478, x480, 0)).bind fun (x592, x594) =>
    some (.inl (x592, x594, wa .i64 x481 1))
  else
    some (.inr (x478, x480))
def graph_levels_l27 (x1 : List (List Int)) : (List Bool) × (List (List Int)) × (List Int) → Option (((List Bool) × (List (List Int)) × (List Int)) ⊕ (((List (List Int))))) := fun (x206, x208, x210) =>
  if (0 : Int) < (x210.length : Int) then
    (app x208 [x210]).bind fun x417 =>
    (loop (graph_levels_l36 x210 x1) (x206, [], 0)).bind fun (x546, x548) =>
    (slices_Sort_int x548).bind fun r549 =>
    some (.inl (x546, x417, r549))
  else
    some (.inr x208)
def graph_levels (x1 : List (List Int)) (x3 : Int) : Option ((List (List Int))) :=
  (mkL false (x1.length : Int)).bind fun x7 =>
  (setI x7 x3 true).bind fun x8 =>
  (loop (graph_levels_l27 x1) (x8, [], [x3])).bind fun x413 =>
  some x413

def graph_Peripheral_j14 (x103 : Int) (x124 : Int) : Option ((Int × Int) ⊕ (Int)) :=
  some (.inl (x124, wa .i64 x103 1))
def graph_Peripheral_l13 (x91 : List Int) (x1 : List (List Int)) : Int × Int → Option ((Int × Int) ⊕ (Int)) := fun (x102, x103) =>
  if x103 < (x91.length : Int) then
    (getI x91 x103).bind fun x119 =>
    (getI x1 x119).bind fun x120 =>
    (getI x1 x102).bind fun x122 =>
    if (x120.length : Int) < (x122.length : Int) then
      graph_Peripheral_j14 x103 x119
    else
      graph_Peripheral_j14 x103 x102
  else
    some (.inr x102)
def graph_Peripheral_l10 (x1 : List (List Int)) : Int × (List (List Int)) → Option ((Int × (List (List Int))) ⊕ (Int)) := fun (x49, x51) =>
  (getI x51 (ws .i64 (x51.length : Int) 1)).bind fun x91 =>
  (getI x91 0).bind fun x93 =>
  (loop (graph_Peripheral_l13 x91 x1) (x93, 0)).bind fun x114 =>
  (graph_levels x1 x114).bind fun r115 =>
  if (r115.length : Int) ≤ (x51.length : Int) then
    some (.inr x49)
  else
    some (.inl (x114, r115))
def graph_Peripheral (x1 : List (List Int)) (x3 : Int) : Option (Int) :=
  (graph_Check x1).bind fun r5 =>
  (if r5 = 0 then
    (graph_vertex x1 x3).bind fun r10 =>
    some (!(r10))
  else
    some true).bind fun r7 =>
  if r7 = true then
    some (-1)
  else
    (graph_levels x1 x3).bind fun r12 =>
    (loop (graph_Peripheral_l10 x1) (x3, r12)).bind fun x90 =>
    some x90

def graph_Levels (x1 : List (List Int)) (x3 : Int) : Option ((List (List Int))) :=
  (graph_Check x1).bind fun r5 =>
  (if r5 = 0 then
    (graph_vertex x1 x3).bind fun r10 =>
    some (!(r10))
  else
    some true).bind fun r7 =>
  if r7 = true then
    some []
  else
    (graph_levels x1 x3).bind fun r12 =>
    some r12

def sparsekit_Ints_l1 (x1 : List Int) (x3 : List Int) : Int → Option ((Int) ⊕ (Unit ⊕ Unit)) := fun x10 =>
  if x10 < (x1.length : Int) then
    (getI x1 x10).bind fun x17 =>
    (getI x3 x10).bind fun x18 =>
    if x17 = x18 then
      some (.inl (wa .i64 x10 1))
    else
      some (.inr (.inr ()))
  else
    some (.inr (.inl ()))
def sparsekit_Ints (x1 : List Int) (x3 : List Int) : Option (Bool) :=
  if (x1.length : Int) = (x3.length : Int) then
    (loop (sparsekit_Ints_l1 x1 x3) 0).bind (fun o => match o with
      | .inl () =>
        some true
      | .inr () =>
        some false)
  else
    some false

def sparsekit_Lists_l1 (x1 : List (List Int)) (x3 : List (List Int)) : Int → Option ((Int) ⊕ (Unit ⊕ Unit)) := fun x13 =>
  if x13 < (x1.length : Int) then
    (getI x1 x13).bind fun x23 =>
    (getI x3 x13).bind fun x25 =>
    (sparsekit_Ints x23 x25).bind fun r27 =>
    if r27 = true then
      some (.inl (wa .i64 x13 1))
    else
      some (.inr (.inr ()))
  else
    some (.inr (.inl ()))
def sparsekit_Lists (x1 : List (List Int)) (x3 : List (List Int)) : Option (Bool) :=
  if (x1.length : Int) = (x3.length : Int) then
    (loop (sparsekit_Lists_l1 x1 x3) 0).bind (fun o => match o with
      | .inl () =>
        some true
      | .inr () =>
        some false)
  else
    some false

def slices_Grow_int_j2 (x7 : List Int) : Option ((List Int)) :=
  some x7
def slices_Grow_int_j1 (x1 : Int) : Option ((List Int)) :=
  if (0 : Int) < (ws .i64 x1 (ws .i64 0 0)) then
    (mkLp 0 (ws .i64 x1 (ws .i64 0 0))).bind fun x10 =>
    (sli x10 0 0).bind fun x11 =>
    slices_Grow_int_j2 x11
  else
    slices_Grow_int_j2 []
def slices_Grow_int (x1 : Int) : Option ((List Int)) :=
  if x1 < 0 then
    none
  else
    slices_Grow_int_j1 x1

def slices_Concat_int_l4 (x1 : List (List Int)) : (List Int) × Int → Option (((List Int) × Int) ⊕ (((List Int)))) := fun (x24, x25) =>
  if x25 < (x1.length : Int) then
    (getI x1 x25).bind fun x37 =>
    (app x24 x37).bind fun x40 =>
    some (.inl (x40, wa .i64 x25 1))
  else
    some (.inr x24)
def slices_Concat_int_j5 (x7 : Int) (x42 : List Int) (x8 : Int) : Option ((Int × Int) ⊕ (Int)) :=
  some (.inl (wa .i64 x7 (x42.length : Int), wa .i64 x8 1))
def slices_Concat_int_l3 (x1 : List (List Int)) : Int × Int → Option ((Int × Int) ⊕ (Int)) := fun (x7, x8) =>
  if x8 < (x1.length : Int) then
    (getI x1 x8).bind fun x42 =>
    if (wa .i64 x7 (x42.length : Int)) < 0 then
      none
    else
      slices_Concat_int_j5 x7 x42 x8
  else
    some (.inr x7)
def slices_Concat_int (x1 : List (List Int)) : Option ((List Int)) :=
  (loop (slices_Concat_int_l3 x1) (0, 0)).bind fun x15 =>
  (slices_Grow_int x15).bind fun r16 =>
  (loop (slices_Concat_int_l4 x1) (r16, 0)).bind fun x35 =>
  some x35
end M
