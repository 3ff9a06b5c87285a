/- Models of functions of the program, printed. -/
import Derived.Test.YtcknmegldjnjjaaM2
namespace M
open Sx
set_option linter.unusedVariables false
def sparselaw12_GraphPeripheral_l5 (r21 : (List (List Int))) (r12 : Int) : Bool × Int → Option ((Bool × Int) ⊕ (Bool)) := fun (x32, x33) =>
  if x33 < (r21.length : Int) then
    (if x32 = true then
      some true
    else
      (getI r21 x33).bind fun x59 =>
      (sparsekit_In x59 r12).bind fun r61 =>
      some r61).bind fun r56 =>
    some (.inl (r56, wa .i64 x33 1))
  else
    some (.inr x32)
def sparselaw12_GraphPeripheral (x1 : Int) (x2 : List Int) (x4 : Int) : Option (Bool) :=
  if (60 : Int) < (x2.length : Int) then
    (sparselaw12_awake).bind fun r6 =>
    some r6
  else
    (sparsekit_Place x1 12).bind fun r7 =>
    (sparsemake_Graph (wa .i64 1 r7) x2).bind fun r8 =>
    (sparsekit_Place x4 (wa .i64 1 r7)).bind fun r11 =>
    (graph_Peripheral r8 r11).bind fun r12 =>
    (if ((decide (r12 < 0)) || (decide ((wa .i64 1 r7) ≤ r12))) = true then
      some true
    else
      (graph_Peripheral r8 r12).bind fun r19 =>
      some (!(decide (r19 = r12)))).bind fun r16 =>
    if r16 = true then
      some false
    else
      (graph_Levels r8 r11).bind fun r21 =>
      (graph_Levels r8 r12).bind fun r23 =>
      if ((decide ((r21.length : Int) = 0)) || (decide ((r23.length : Int) < (r21.length : Int)))) = true then
        some false
      else
        (loop (sparselaw12_GraphPeripheral_l5 r21 r12) (false, 0)).bind fun x46 =>
        (if x46 = true then
          (sparselaw12_awake).bind fun r51 =>
          some r51
        else
          some false).bind fun r48 =>
        some r48

def sparsekit_Shuffle_j5 (x36 : List Int) (x38 : List Int) (x39 : Int) (x65 : Int) : Option (((List Int) × (List Int) × Int) ⊕ (((List Int)))) :=
  (getI x36 x65).bind fun x66 =>
  (app x38 [x66]).bind fun x69 =>
  (sli x36 0 x65).bind fun x70 =>
  (sli x36 (wa .i64 x65 1) (x36.length : Int)).bind fun x71 =>
  (app x70 x71).bind fun x73 =>
  some (.inl (x73, x69, wa .i64 x39 1))
def sparsekit_Shuffle_l4 (x3 : Int) (x1 : List Int) : (List Int) × (List Int) × Int → Option (((List Int) × (List Int) × Int) ⊕ (((List Int)))) := fun (x36, x38, x39) =>
  if x39 < x3 then
    if x39 < (x1.length : Int) then
      (getI x1 x39).bind fun x75 =>
      (sparsekit_Place x75 (x36.length : Int)).bind fun r76 =>
      sparsekit_Shuffle_j5 x36 x38 x39 r76
    else
      sparsekit_Shuffle_j5 x36 x38 x39 0
  else
    some (.inr x38)
def sparsekit_Shuffle_l1 (x3 : Int) : (List Int) × Int → Option (((List Int) × Int) ⊕ (((List Int)))) := fun (x9, x10) =>
  if x10 < x3 then
    (app x9 [x10]).bind fun x80 =>
    some (.inl (x80, wa .i64 x10 1))
  else
    some (.inr x9)
def sparsekit_Shuffle (x1 : List Int) (x3 : Int) : Option ((List Int)) :=
  (loop (sparsekit_Shuffle_l1 x3) ([], 0)).bind fun x19 =>
  (loop (sparsekit_Shuffle_l4 x3 x1) (x19, [], 0)).bind fun x61 =>
  some x61

def graph_Permuted_1 (x1 : Int) (x3 : List (List Int)) : Option (Bool) :=
  (graph_vertex x3 x1).bind fun r5 =>
  some (!(r5))

def slices_IndexFunc_int_l1 (x1 : List Int) (x4 : List (List Int)) : Int → Option ((Int) ⊕ (Unit ⊕ Int)) := fun x10 =>
  if x10 < (x1.length : Int) then
    (getI x1 x10).bind fun x18 =>
    (graph_Permuted_1 x18 x4).bind fun r19 =>
    if r19 = true then
      some (.inr (.inr x10))
    else
      some (.inl (wa .i64 x10 1))
  else
    some (.inr (.inl ()))
def slices_IndexFunc_int (x1 : List Int) (x4 : List (List Int)) : Option (Int) :=
  (loop (slices_IndexFunc_int_l1 x1 x4) 0).bind (fun o => match o with
    | .inl () =>
      some (-1)
    | .inr x16 =>
      some x16)

def slices_ContainsFunc_int (x1 : List Int) (x4 : List (List Int)) : Option (Bool) :=
  (slices_IndexFunc_int x1 x4).bind fun r6 =>
  some (decide ((0 : Int) ≤ r6))

def slices_Values_int (x1 : List Int) : Option (Unit) :=
  some ()

def slices_Collect_int (x2 : List Int) : Option ((List Int)) :=
  (colV x2).bind fun r4 =>
  some r4

def slices_Sorted_int (x2 : List Int) : Option ((List Int)) :=
  (slices_Collect_int x2).bind fun r4 =>
  (slices_Sort_int r4).bind fun r6 =>
  some r6

def slices_Compact_int_l7 (x1 : List Int) : Int → Option ((Int) ⊕ (Unit)) := fun x28 =>
  if x28 < (x1.length : Int) then
    (getI x1 x28).bind fun x55 =>
    (getI x1 (ws .i64 x28 1)).bind fun x56 =>
    if x55 = x56 then
      none
    else
      some (.inl (wa .i64 x28 1))
  else
    some (.inr ())
def slices_Compact_int (x1 : List Int) : Option (Unit) :=
  if (x1.length : Int) < 2 then
    some ()
  else
    (loop (slices_Compact_int_l7 x1) 1).bind fun _ =>
    some ()

def graph_twice (x1 : List Int) : Option (Bool) :=
  (slices_Values_int x1).bind fun r3 =>
  (slices_Sorted_int x1).bind fun r5 =>
  (slices_Compact_int r5).bind fun r7 =>
  some (decide ((r5.length : Int) < (x1.length : Int)))

def graph_Permuted (x1 : List (List Int)) (x3 : List Int) : Option (Int) :=
  (graph_Check x1).bind fun r6 =>
  if r6 = 0 then
    if (x3.length : Int) = (x1.length : Int) then
      (slices_ContainsFunc_int x3 x1).bind fun r9 =>
      (if r9 = true then
        some true
      else
        (graph_twice x3).bind fun r14 =>
        some r14).bind fun r11 =>
      if r11 = true then
        some 90
      else
        some 0
    else
      some 2
  else
    some r6

def graph_NewSets_l1 (x4 : List (List Bool)) (x1 : Int) : (List (List Bool)) × Int → Option (((List (List Bool)) × Int) ⊕ (((List (List Bool))))) := fun (x12, x13) =>
  if x13 < (x4.length : Int) then
    (mkL false x1).bind fun x28 =>
    (setI x12 x13 x28).bind fun x29 =>
    some (.inl (x29, wa .i64 x13 1))
  else
    some (.inr x12)
def graph_NewSets (x1 : Int) : Option ((List (List Bool))) :=
  (mkL ([] : List Bool) x1).bind fun x4 =>
  (loop (graph_NewSets_l1 x4 x1) (x4, 0)).bind fun x24 =>
  some x24
end M
