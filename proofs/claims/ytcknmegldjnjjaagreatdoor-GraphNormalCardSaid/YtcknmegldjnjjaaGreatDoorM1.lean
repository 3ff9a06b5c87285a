/- Models of functions of the program, printed. -/
import Derived.Test.YtcknmegldjnjjaaGreatDoorM0
namespace M
open Sx
set_option linter.unusedVariables false
def sparsekit_Lists_l1 (x1 : List (List Int)) (x3 : List (List Int)) : Int → Option ((Int) ⊕ (Unit ⊕ Unit)) := fun x13 =>
  if x13 < (x1.length : Int) then
    (getI x1 x13).bind fun x23 =>
    (getI x3 x13).bind fun x25 =>
    (sparsekit_Ints x23 x25).bind fun r27 =>
    if r27 = true then
      some (.inl (wa .i64 x13 1))
    else
      some (.inr (.inr ()))
  else
    some (.inr (.inl ()))
def sparsekit_Lists (x1 : List (List Int)) (x3 : List (List Int)) : Option (Bool) :=
  if (x1.length : Int) = (x3.length : Int) then
    (loop (sparsekit_Lists_l1 x1 x3) 0).bind (fun o => match o with
      | .inl () =>
        some true
      | .inr () =>
        some false)
  else
    some false

def slices_Grow_int_j2 (x7 : List Int) : Option ((List Int)) :=
  some x7
def slices_Grow_int_j1 (x1 : Int) : Option ((List Int)) :=
  if (0 : Int) < (ws .i64 x1 (ws .i64 0 0)) then
    (mkLp 0 (ws .i64 x1 (ws .i64 0 0))).bind fun x10 =>
    (sli x10 0 0).bind fun x11 =>
    slices_Grow_int_j2 x11
  else
    slices_Grow_int_j2 []
def slices_Grow_int (x1 : Int) : Option ((List Int)) :=
  if x1 < 0 then
    none
  else
    slices_Grow_int_j1 x1

def slices_Concat_int_l4 (x1 : List (List Int)) : (List Int) × Int → Option (((List Int) × Int) ⊕ (((List Int)))) := fun (x24, x25) =>
  if x25 < (x1.length : Int) then
    (getI x1 x25).bind fun x37 =>
    (app x24 x37).bind fun x40 =>
    some (.inl (x40, wa .i64 x25 1))
  else
    some (.inr x24)
def slices_Concat_int_j5 (x7 : Int) (x42 : List Int) (x8 : Int) : Option ((Int × Int) ⊕ (Int)) :=
  some (.inl (wa .i64 x7 (x42.length : Int), wa .i64 x8 1))
def slices_Concat_int_l3 (x1 : List (List Int)) : Int × Int → Option ((Int × Int) ⊕ (Int)) := fun (x7, x8) =>
  if x8 < (x1.length : Int) then
    (getI x1 x8).bind fun x42 =>
    if (wa .i64 x7 (x42.length : Int)) < 0 then
      none
    else
      slices_Concat_int_j5 x7 x42 x8
  else
    some (.inr x7)
def slices_Concat_int (x1 : List (List Int)) : Option ((List Int)) :=
  (loop (slices_Concat_int_l3 x1) (0, 0)).bind fun x15 =>
  (slices_Grow_int x15).bind fun r16 =>
  (loop (slices_Concat_int_l4 x1) (r16, 0)).bind fun x35 =>
  some x35

def graph_Components_j12 (x88 : Int) (x220 : List Bool) (x222 : List (List Int)) : Option (((List Bool) × (List (List Int)) × Int) ⊕ (((List (List Int))))) :=
  some (.inl (x220, x222, wa .i64 x88 1))
def graph_Components_l13 (r229 : List Int) : (List Bool) × Int → Option (((List Bool) × Int) ⊕ (((List Bool)))) := fun (x233, x234) =>
  if x234 < (r229.length : Int) then
    (getI r229 x234).bind fun x245 =>
    (setI x233 x245 true).bind fun x246 =>
    some (.inl (x246, wa .i64 x234 1))
  else
    some (.inr x233)
def graph_Components_l9 (x1 : List (List Int)) : (List Bool) × (List (List Int)) × Int → Option (((List Bool) × (List (List Int)) × Int) ⊕ (((List (List Int))))) := fun (x85, x87, x88) =>
  if x88 < (x1.length : Int) then
    (getI x85 x88).bind fun x223 =>
    if x223 = true then
      graph_Components_j12 x88 x85 x87
    else
      (graph_levels x1 x88).bind fun r225 =>
      (slices_Concat_int r225).bind fun r227 =>
      (sortI r227).bind fun r229 =>
      (loop (graph_Components_l13 r229) (x85, 0)).bind fun x240 =>
      (app x87 [r229]).bind fun x243 =>
      graph_Components_j12 x88 x240 x243
  else
    some (.inr x87)
def graph_Components (x1 : List (List Int)) : Option ((List (List Int))) :=
  (graph_Check x1).bind fun r4 =>
  if r4 = 0 then
    (mkL false (x1.length : Int)).bind fun x8 =>
    (loop (graph_Components_l9 x1) (x8, [], 0)).bind fun x170 =>
    some x170
  else
    some []

def sparselaw12_awake : Option (Bool) :=
  (graph_Check [[1], [0, 2], [1, 3], [2]]).bind fun r7 =>
  (if r7 = 0 then
    (graph_Peripheral [[1], [0, 2], [1, 3], [2]] 1).bind fun r12 =>
    some (decide (r12 = 3))
  else
    some false).bind fun r9 =>
  (if r9 = true then
    (graph_Levels [[1], [0, 2], [1, 3], [2]] 1).bind fun r23 =>
    (sparsekit_Lists r23 [[1], [0, 2], [3]]).bind fun r29 =>
    some r29
  else
    some false).bind fun r20 =>
  (if r20 = true then
    (graph_Components [[1], [0, 2], [1, 3], [2]]).bind fun r35 =>
    some (decide ((r35.length : Int) = 1))
  else
    some false).bind fun r32 =>
  some r32

def sparsekit_Place (x1 : Int) (x2 : Int) : Option (Int) :=
  (wr (wc .u64 x1) (wc .u64 x2)).bind fun x3 =>
  some (wc .i64 x3)

def sparseref01_trim_l4 (x17 : Int) (x1 : List Int) : (List Int) × Int → Option (((List Int) × Int) ⊕ (((List Int)))) := fun (x24, x25) =>
  if x25 < x17 then
    (getI x1 x25).bind fun x37 =>
    (app x24 [x37]).bind fun x40 =>
    some (.inl (x40, wa .i64 x25 1))
  else
    some (.inr x24)
def sparseref01_trim_l3 (x1 : List Int) : Int → Option ((Int) ⊕ (Int)) := fun x9 =>
  (if (0 : Int) < x9 then
    (getI x1 (ws .i64 x9 1)).bind fun x45 =>
    some (decide (x45 = 0))
  else
    some false).bind fun r42 =>
  if r42 = true then
    some (.inl (ws .i64 x9 1))
  else
    some (.inr x9)
def sparseref01_trim (x1 : List Int) : Option ((List Int)) :=
  (loop (sparseref01_trim_l3 x1) (x1.length : Int)).bind fun x17 =>
  (loop (sparseref01_trim_l4 x17 x1) ([], 0)).bind fun x35 =>
  some x35

def sparseref01_make1 (x1 : Bool) (x2 : List Int) : Option (Bool × (List Int)) :=
  (sparseref01_trim x2).bind fun r5 =>
  some ((x1 && (decide ((0 : Int) < (r5.length : Int)))), r5)

def sparseref01_FromInt_j1 (x1 : Int) (x3 : Int) : Option (Bool × (List Int)) :=
  (sparseref01_make1 (decide (x1 < 0)) [wc .u32 x3, wc .u32 (wsrc .u64 x3 32)]).bind fun r5 =>
  some (r5.1, r5.2)
def sparseref01_FromInt (x1 : Int) : Option (Bool × (List Int)) :=
  if x1 < 0 then
    sparseref01_FromInt_j1 x1 (wa .u64 (wc .u64 (wneg .i64 (wa .i64 x1 1))) 1)
  else
    sparseref01_FromInt_j1 x1 (wc .u64 x1)

def sparseref01_Norm (x1 : Bool) (x2 : List Int) : Option (Bool × (List Int)) :=
  (sparseref01_make1 x1 x2).bind fun r6 =>
  some (r6.1, r6.2)

def sparseref02_Bad : Option (Bool × Bool × Int) :=
  some (true, false, 0)

def sparseref01_TrailingZeros_l1 (r5 : (List Int)) : Int → Option ((Int) ⊕ (Unit ⊕ Int)) := fun x12 =>
  if x12 < (r5.length : Int) then
    (getI r5 x12).bind fun x21 =>
    if x21 = 0 then
      some (.inl (wa .i64 x12 1))
    else
      (getI r5 x12).bind fun x23 =>
      (tz32 x23).bind fun r24 =>
      some (.inr (.inr (wa .i64 (wm .i64 32 x12) r24)))
  else
    some (.inr (.inl ()))
def sparseref01_TrailingZeros (x1 : Bool) (x2 : List Int) : Option (Int) :=
  (sparseref01_trim x2).bind fun r5 =>
  (loop (sparseref01_TrailingZeros_l1 r5) 0).bind (fun o => match o with
    | .inl () =>
      some 0
    | .inr x19 =>
      some x19)
end M
