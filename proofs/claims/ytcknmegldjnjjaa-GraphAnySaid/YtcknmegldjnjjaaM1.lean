/- Models of functions of the program, printed. -/
import Derived.Test.YtcknmegldjnjjaaM0
namespace M
open Sx
set_option linter.unusedVariables false
def sparsekit_Lists_l1 (x1 : List (List Int)) (x3 : List (List Int)) : Int → Option ((Int) ⊕ (Unit ⊕ Unit)) := fun x13 =>
  if x13 < (x1.length : Int) then
    (getI x1 x13).bind fun x23 =>
    (getI x3 x13).bind fun x25 =>
    (sparsekit_Ints x23 x25).bind fun r27 =>
    if r27 = true then
      some (.inl (wa .i64 x13 1))
    else
      some (.inr (.inr ()))
  else
    some (.inr (.inl ()))
def sparsekit_Lists (x1 : List (List Int)) (x3 : List (List Int)) : Option (Bool) :=
  if (x1.length : Int) = (x3.length : Int) then
    (loop (sparsekit_Lists_l1 x1 x3) 0).bind (fun o => match o with
      | .inl () =>
        some true
      | .inr () =>
        some false)
  else
    some false

def slices_Grow_int_j2 (x7 : List Int) : Option ((List Int)) :=
  some x7
def slices_Grow_int_j1 (x1 : Int) : Option ((List Int)) :=
  if (0 : Int) < (ws .i64 x1 (ws .i64 0 0)) then
    (mkLp 0 (ws .i64 x1 (ws .i64 0 0))).bind fun x10 =>
    (sli x10 0 0).bind fun x11 =>
    slices_Grow_int_j2 x11
  else
    slices_Grow_int_j2 []
def slices_Grow_int (x1 : Int) : Option ((List Int)) :=
  if x1 < 0 then
    none
  else
    slices_Grow_int_j1 x1

def slices_Concat_int_l4 (x1 : List (List Int)) : (List Int) × Int → Option (((List Int) × Int) ⊕ (((List Int)))) := fun (x24, x25) =>
  if x25 < (x1.length : Int) then
    (getI x1 x25).bind fun x37 =>
    (app x24 x37).bind fun x40 =>
    some (.inl (x40, wa .i64 x25 1))
  else
    some (.inr x24)
def slices_Concat_int_j5 (x7 : Int) (x42 : List Int) (x8 : Int) : Option ((Int × Int) ⊕ (Int)) :=
  some (.inl (wa .i64 x7 (x42.length : Int), wa .i64 x8 1))
def slices_Concat_int_l3 (x1 : List (List Int)) : Int × Int → Option ((Int × Int) ⊕ (Int)) := fun (x7, x8) =>
  if x8 < (x1.length : Int) then
    (getI x1 x8).bind fun x42 =>
    if (wa .i64 x7 (x42.length : Int)) < 0 then
      none
    else
      slices_Concat_int_j5 x7 x42 x8
  else
    some (.inr x7)
def slices_Concat_int (x1 : List (List Int)) : Option ((List Int)) :=
  (loop (slices_Concat_int_l3 x1) (0, 0)).bind fun x15 =>
  (slices_Grow_int x15).bind fun r16 =>
  (loop (slices_Concat_int_l4 x1) (r16, 0)).bind fun x35 =>
  some x35

def graph_Components_j12 (x88 : Int) (x220 : List Bool) (x222 : List (List Int)) : Option (((List Bool) × (List (List Int)) × Int) ⊕ (((List (List Int))))) :=
  some (.inl (x220, x222, wa .i64 x88 1))
def graph_Components_l13 (r229 : List Int) : (List Bool) × Int → Option (((List Bool) × Int) ⊕ (((List Bool)))) := fun (x233, x234) =>
  if x234 < (r229.length : Int) then
    (getI r229 x234).bind fun x245 =>
    (setI x233 x245 true).bind fun x246 =>
    some (.inl (x246, wa .i64 x234 1))
  else
    some (.inr x233)
def graph_Components_l9 (x1 : List (List Int)) : (List Bool) × (List (List Int)) × Int → Option (((List Bool) × (List (List Int)) × Int) ⊕ (((List (List Int))))) := fun (x85, x87, x88) =>
  if x88 < (x1.length : Int) then
    (getI x85 x88).bind fun x223 =>
    if x223 = true then
      graph_Components_j12 x88 x85 x87
    else
      (graph_levels x1 x88).bind fun r225 =>
      (slices_Concat_int r225).bind fun r227 =>
      (sortI r227).bind fun r229 =>
      (loop (graph_Components_l13 r229) (x85, 0)).bind fun x240 =>
      (app x87 [r229]).bind fun x243 =>
      graph_Components_j12 x88 x240 x243
  else
    some (.inr x87)
def graph_Components (x1 : List (List Int)) : Option ((List (List Int))) :=
  (graph_Check x1).bind fun r4 =>
  if r4 = 0 then
    (mkL false (x1.length : Int)).bind fun x8 =>
    (loop (graph_Components_l9 x1) (x8, [], 0)).bind fun x170 =>
    some x170
  else
    some []

def sparselaw12_awake : Option (Bool) :=
  (graph_Check [[1], [0, 2], [1, 3], [2]]).bind fun r7 =>
  (if r7 = 0 then
    (graph_Peripheral [[1], [0, 2], [1, 3], [2]] 1).bind fun r12 =>
    some (decide (r12 = 3))
  else
    some false).bind fun r9 =>
  (if r9 = true then
    (graph_Levels [[1], [0, 2], [1, 3], [2]] 1).bind fun r23 =>
    (sparsekit_Lists r23 [[1], [0, 2], [3]]).bind fun r29 =>
    some r29
  else
    some false).bind fun r20 =>
  (if r20 = true then
    (graph_Components [[1], [0, 2], [1, 3], [2]]).bind fun r35 =>
    some (decide ((r35.length : Int) = 1))
  else
    some false).bind fun r32 =>
  some r32

def sparsekit_Place (x1 : Int) (x2 : Int) : Option (Int) :=
  (wr (wc .u64 x1) (wc .u64 x2)).bind fun x3 =>
  some (wc .i64 x3)

def sparseref12_FromTable_j40 (x299 : Int) (x377 : List Int) : Option (((List Int) × Int) ⊕ (((List Int)))) :=
  some (.inl (x377, wa .i64 x299 1))
def sparseref12_FromTable_l36 (x1 : List (List Bool)) (x130 : Int) : (List Int) × Int → Option (((List Int) × Int) ⊕ (((List Int)))) := fun (x298, x299) =>
  if x299 < (x1.length : Int) then
    (if x130 = x299 then
      some false
    else
      (getI x1 x130).bind fun x361 =>
      (getI x361 x299).bind fun x363 =>
      (if x363 = true then
        some true
      else
        (getI x1 x299).bind fun x370 =>
        (getI x370 x130).bind fun x372 =>
        some x372).bind fun r367 =>
      some r367).bind fun r358 =>
    if r358 = true then
      (app x298 [x299]).bind fun x381 =>
      sparseref12_FromTable_j40 x299 x381
    else
      sparseref12_FromTable_j40 x299 x298
  else
    some (.inr x298)
def sparseref12_FromTable_l27 (x1 : List (List Bool)) : (List (List Int)) × Int → Option (((List (List Int)) × Int) ⊕ (((List (List Int))))) := fun (x129, x130) =>
  if x130 < (x1.length : Int) then
    (loop (sparseref12_FromTable_l36 x1 x130) ([], 0)).bind fun x341 =>
    (app x129 [x341]).bind fun x344 =>
    some (.inl (x344, wa .i64 x130 1))
  else
    some (.inr x129)
def sparseref12_FromTable (x1 : List (List Bool)) : Option ((List (List Int))) :=
  (loop (sparseref12_FromTable_l27 x1) ([], 0)).bind fun x258 =>
  some x258

def sparsemake_Graph_l4 (x2 : List Int) (x1 : Int) : (List (List Bool)) × Int → Option (((List (List Bool)) × Int) ⊕ (((List (List Bool))))) := fun (x45, x46) =>
  if ((decide ((wa .i64 x46 1) < (x2.length : Int))) && (decide ((0 : Int) < x1))) = true then
    (getI x2 x46).bind fun x66 =>
    (sparsekit_Place x66 x1).bind fun r67 =>
    (getI x45 r67).bind fun x68 =>
    (getI x2 (wa .i64 x46 1)).bind fun x70 =>
    (sparsekit_Place x70 x1).bind fun r71 =>
    (setI x68 r71 true).bind fun x72 =>
    (setI x45 r67 x72).bind fun x73 =>
    some (.inl (x73, wa .i64 x46 2))
  else
    some (.inr x45)
def sparsemake_Graph_l1 (x1 : Int) : (List (List Bool)) × Int → Option (((List (List Bool)) × Int) ⊕ (((List (List Bool))))) := fun (x16, x17) =>
  if x17 < x1 then
    (mkL false x1).bind fun x77 =>
    (app x16 [x77]).bind fun x81 =>
    some (.inl (x81, wa .i64 x17 1))
  else
    some (.inr x16)
def sparsemake_Graph (x1 : Int) (x2 : List Int) : Option ((List (List Int))) :=
  (loop (sparsemake_Graph_l1 x1) ([], 0)).bind fun x33 =>
  (loop (sparsemake_Graph_l4 x2 x1) (x33, 0)).bind fun x60 =>
  (sparseref12_FromTable x60).bind fun r61 =>
  some r61

def sparsekit_In_l1 (x1 : List Int) (x3 : Int) : Int → Option ((Int) ⊕ (Unit ⊕ Unit)) := fun x7 =>
  if x7 < (x1.length : Int) then
    (getI x1 x7).bind fun x13 =>
    if x13 = x3 then
      some (.inr (.inr ()))
    else
      some (.inl (wa .i64 x7 1))
  else
    some (.inr (.inl ()))
def sparsekit_In (x1 : List Int) (x3 : Int) : Option (Bool) :=
  (loop (sparsekit_In_l1 x1 x3) 0).bind (fun o => match o with
    | .inl () =>
      some false
    | .inr () =>
      some true)

def sparselaw12_GraphPeripheral_l5 (r21 : (List (List Int))) (r12 : Int) : Bool × Int → Option ((Bool × Int) ⊕ (Bool)) := fun (x32, x33) =>
  if x33 < (r21.length : Int) then
    (if x32 = true then
      some true
    else
      (getI r21 x33).bind fun x59 =>
      (sparsekit_In x59 r12).bind fun r61 =>
      some r61).bind fun r56 =>
    some (.inl (r56, wa .i64 x33 1))
  else
    some (.inr x32)
def sparselaw12_GraphPeripheral (x1 : Int) (x2 : List Int) (x4 : Int) : Option (Bool) :=
  if (60 : Int) < (x2.length : Int) then
    (sparselaw12_awake).bind fun r6 =>
    some r6
  else
    (sparsekit_Place x1 12).bind fun r7 =>
    (sparsemake_Graph (wa .i64 1 r7) x2).bind fun r8 =>
    (sparsekit_Place x4 (wa .i64 1 r7)).bind fun r11 =>
    (graph_Peripheral r8 r11).bind fun r12 =>
    (if ((decide (r12 < 0)) || (decide ((wa .i64 1 r7) ≤ r12))) = true then
      some true
    else
      (graph_Peripheral r8 r12).bind fun r19 =>
      some (!(decide (r19 = r12)))).bind fun r16 =>
    if r16 = true then
      some false
    else
      (graph_Levels r8 r11).bind fun r21 =>
      (graph_Levels r8 r12).bind fun r23 =>
      if ((decide ((r21.length : Int) = 0)) || (decide ((r23.length : Int) < (r21.length : Int)))) = true then
        some false
      else
        (loop (sparselaw12_GraphPeripheral_l5 r21 r12) (false, 0)).bind fun x46 =>
        (if x46 = true then
          (sparselaw12_awake).bind fun r51 =>
          some r51
        else
          some false).bind fun r48 =>
        some r48

def sparsekit_Shuffle_j5 (x36 : List Int) (x38 : List Int) (x39 : Int) (x65 : Int) : Option (((List Int) × (List Int) × Int) ⊕ (((List Int)))) :=
  (getI x36 x65).bind fun x66 =>
  (app x38 [x66]).bind fun x69 =>
  (sli x36 0 x65).bind fun x70 =>
  (sli x36 (wa .i64 x65 1) (x36.length : Int)).bind fun x71 =>
  (app x70 x71).bind fun x73 =>
  some (.inl (x73, x69, wa .i64 x39 1))
def sparsekit_Shuffle_l4 (x3 : Int) (x1 : List Int) : (List Int) × (List Int) × Int → Option (((List Int) × (List Int) × Int) ⊕ (((List Int)))) := fun (x36, x38, x39) =>
  if x39 < x3 then
    if x39 < (x1.length : Int) then
      (getI x1 x39).bind fun x75 =>
      (sparsekit_Place x75 (x36.length : Int)).bind fun r76 =>
      sparsekit_Shuffle_j5 x36 x38 x39 r76
    else
      sparsekit_Shuffle_j5 x36 x38 x39 0
  else
    some (.inr x38)
def sparsekit_Shuffle_l1 (x3 : Int) : (List Int) × Int → Option (((List Int) × Int) ⊕ (((List Int)))) := fun (x9, x10) =>
  if x10 < x3 then
    (app x9 [x10]).bind fun x80 =>
    some (.inl (x80, wa .i64 x10 1))
  else
    some (.inr x9)
def sparsekit_Shuffle (x1 : List Int) (x3 : Int) : Option ((List Int)) :=
  (loop (sparsekit_Shuffle_l1 x3) ([], 0)).bind fun x19 =>
  (loop (sparsekit_Shuffle_l4 x3 x1) (x19, [], 0)).bind fun x61 =>
  some x61

def graph_Permuted_1 (x1 : Int) (x3 : List (List Int)) : Option (Bool) :=
  (graph_vertex x3 x1).bind fun r5 =>
  some (!(r5))
end M
