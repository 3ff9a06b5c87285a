/- Models of functions of the program, printed. -/
import Derived.Test.YthpeajepbffinaaM4
namespace M
open Sx
set_option linter.unusedVariables false
def dissect_Separate (x1 : List (List Int)) : Option ((List Int) × (List Int) × (List Int) × Int) :=
  (graph_Check x1).bind fun r5 =>
  if r5 = 0 then
    (dissect_separate x1).bind fun r7 =>
    some (r7.1, r7.2.1, r7.2.2, 0)
  else
    some ([], [], [], r5)

def sparsekit_Ints_l1 (x1 : List Int) (x3 : List Int) : Int → Option ((Int) ⊕ (Unit ⊕ Unit)) := fun x10 =>
  if x10 < (x1.length : Int) then
    (getI x1 x10).bind fun x17 =>
    (getI x3 x10).bind fun x18 =>
    if x17 = x18 then
      some (.inl (wa .i64 x10 1))
    else
      some (.inr (.inr ()))
  else
    some (.inr (.inl ()))
def sparsekit_Ints (x1 : List Int) (x3 : List Int) : Option (Bool) :=
  if (x1.length : Int) = (x3.length : Int) then
    (loop (sparsekit_Ints_l1 x1 x3) 0).bind (fun o => match o with
      | .inl () =>
        some true
      | .inr () =>
        some false)
  else
    some false

def sparsekit_Split (x1 : List Int) (x3 : List Int) (x5 : List Int) (x7 : List Int) (x9 : List Int) (x11 : List Int) : Option (Bool) :=
  (sparsekit_Ints x1 x7).bind fun r15 =>
  (if r15 = true then
    (sparsekit_Ints x3 x9).bind fun r20 =>
    some r20
  else
    some false).bind fun r17 =>
  (if r17 = true then
    (sparsekit_Ints x5 x11).bind fun r25 =>
    some r25
  else
    some false).bind fun r22 =>
  some r22

def dissect_parts_l20 (x108 : List Int) (x1 : Int) (x55 : Int) : (List Int) × Int × Int × Int → Option (((List Int) × Int × Int × Int) ⊕ (((List Int) × Int) ⊕ Unit)) := fun (x121, x122, x123, x124) =>
  if x124 < (x108.length : Int) then
    (getI x108 x124).bind fun x143 =>
    (if ((decide (x143 ≤ x123)) || (decide (x1 ≤ x143))) = true then
      some true
    else
      (getI x121 x143).bind fun x150 =>
      some (!(decide (x150 = (-1))))).bind fun r147 =>
    if r147 = true then
      some (.inr (.inr ()))
    else
      (setI x121 x143 x55).bind fun x152 =>
      some (.inl (x152, wa .i64 x122 1, x143, wa .i64 x124 1))
  else
    some (.inr (.inl (x121, x122)))
def dissect_parts_l15 (x2 : List (List Int)) (x1 : Int) : (List Int) × Int × Int → Option (((List Int) × Int × Int) ⊕ (((List Int) × Int) ⊕ Unit)) := fun (x53, x54, x55) =>
  if x55 < (x2.length : Int) then
    (getI x2 x55).bind fun x108 =>
    (loop (dissect_parts_l20 x108 x1 x55) (x53, x54, (-1), 0)).bind (fun o => match o with
      | .inl (x140, x141) =>
        some (.inl (x140, x141, wa .i64 x55 1))
      | .inr () =>
        some (.inr (.inr ())))
  else
    some (.inr (.inl (x53, x54)))
def dissect_parts (x1 : Int) (x2 : List (List Int)) : Option ((List Int) × Bool) :=
  (slices_Repeat_int [(-1)] x1).bind fun r5 =>
  (loop (dissect_parts_l15 x2 x1) (r5, 0, 0)).bind (fun o => match o with
    | .inl (x105, x106) =>
      some (x105, decide (x106 = x1))
    | .inr () =>
      some ([], false))

def dissect_Check_l12 (x84 : List Int) (r14 : (List Int) × Bool) (x49 : Int) : Int → Option ((Int) ⊕ (Unit ⊕ Unit)) := fun x95 =>
  if x95 < (x84.length : Int) then
    (getI x84 x95).bind fun x107 =>
    (getI r14.1 x49).bind fun x108 =>
    (if x108 = 0 then
      (getI r14.1 x107).bind fun x113 =>
      some (decide (x113 = 1))
    else
      some false).bind fun r110 =>
    if r110 = true then
      some (.inr (.inr ()))
    else
      some (.inl (wa .i64 x95 1))
  else
    some (.inr (.inl ()))
def dissect_Check_l9 (x1 : List (List Int)) (r14 : (List Int) × Bool) : Int → Option ((Int) ⊕ (Unit ⊕ Unit)) := fun x49 =>
  if x49 < (x1.length : Int) then
    (getI x1 x49).bind fun x84 =>
    (loop (dissect_Check_l12 x84 r14 x49) 0).bind (fun o => match o with
      | .inl () =>
        some (.inl (wa .i64 x49 1))
      | .inr () =>
        some (.inr (.inr ())))
  else
    some (.inr (.inl ()))
def dissect_Check (x1 : List (List Int)) (x3 : List Int) (x5 : List Int) (x7 : List Int) : Option (Int) :=
  (graph_Check x1).bind fun r11 =>
  if r11 = 0 then
    (dissect_parts (x1.length : Int) [x3, x5, x7]).bind fun r14 =>
    if r14.2 = true then
      (loop (dissect_Check_l9 x1 r14) 0).bind (fun o => match o with
        | .inl () =>
          some 0
        | .inr () =>
          some 180)
    else
      some 180
  else
    some r11

def sparselaw18_awake : Option (Bool) :=
  (dissect_Separate [[1], [0, 2], [1, 3], [2]]).bind fun r7 =>
  (if r7.2.2.2 = 0 then
    (sparsekit_Split r7.1 r7.2.1 r7.2.2.1 [0, 1] [3] [2]).bind fun r22 =>
    some r22
  else
    some false).bind fun r16 =>
  (if r16 = true then
    (dissect_Check [[1], [0, 2], [1, 3], [2]] r7.1 r7.2.1 r7.2.2.1).bind fun r27 =>
    some (decide (r27 = 0))
  else
    some false).bind fun r24 =>
  some r24

def sparsekit_Place (x1 : Int) (x2 : Int) : Option (Int) :=
  (wr (wc .u64 x1) (wc .u64 x2)).bind fun x3 =>
  some (wc .i64 x3)

def sparseref12_FromTable_j40 (x299 : Int) (x377 : List Int) : Option (((List Int) × Int) ⊕ (((List Int)))) :=
  some (.inl (x377, wa .i64 x299 1))
def sparseref12_FromTable_l36 (x1 : List (List Bool)) (x130 : Int) : (List Int) × Int → Option (((List Int) × Int) ⊕ (((List Int)))) := fun (x298, x299) =>
  if x299 < (x1.length : Int) then
    (if x130 = x299 then
      some false
    else
      (getI x1 x130).bind fun x361 =>
      (getI x361 x299).bind fun x363 =>
      (if x363 = true then
        some true
      else
        (getI x1 x299).bind fun x370 =>
        (getI x370 x130).bind fun x372 =>
        some x372).bind fun r367 =>
      some r367).bind fun r358 =>
    if r358 = true then
      (app x298 [x299]).bind fun x381 =>
      sparseref12_FromTable_j40 x299 x381
    else
      sparseref12_FromTable_j40 x299 x298
  else
    some (.inr x298)
def sparseref12_FromTable_l27 (x1 : List (List Bool)) : (List (List Int)) × Int → Option (((List (List Int)) × Int) ⊕ (((List (List Int))))) := fun (x129, x130) =>
  if x130 < (x1.length : Int) then
    (loop (sparseref12_FromTable_l36 x1 x130) ([], 0)).bind fun x341 =>
    (app x129 [x341]).bind fun x344 =>
    some (.inl (x344, wa .i64 x130 1))
  else
    some (.inr x129)
def sparseref12_FromTable (x1 : List (List Bool)) : Option ((List (List Int))) :=
  (loop (sparseref12_FromTable_l27 x1) ([], 0)).bind fun x258 =>
  some x258

def sparsemake_Graph_l4 (x2 : List Int) (x1 : Int) : (List (List Bool)) × Int → Option (((List (List Bool)) × Int) ⊕ (((List (List Bool))))) := fun (x45, x46) =>
  if ((decide ((wa .i64 x46 1) < (x2.length : Int))) && (decide ((0 : Int) < x1))) = true then
    (getI x2 x46).bind fun x66 =>
    (sparsekit_Place x66 x1).bind fun r67 =>
    (getI x45 r67).bind fun x68 =>
    (getI x2 (wa .i64 x46 1)).bind fun x70 =>
    (sparsekit_Place x70 x1).bind fun r71 =>
    (setI x68 r71 true).bind fun x72 =>
    (setI x45 r67 x72).bind fun x73 =>
    some (.inl (x73, wa .i64 x46 2))
  else
    some (.inr x45)
def sparsemake_Graph_l1 (x1 : Int) : (List (List Bool)) × Int → Option (((List (List Bool)) × Int) ⊕ (((List (List Bool))))) := fun (x16, x17) =>
  if x17 < x1 then
    (mkL false x1).bind fun x77 =>
    (app x16 [x77]).bind fun x81 =>
    some (.inl (x81, wa .i64 x17 1))
  else
    some (.inr x16)
def sparsemake_Graph (x1 : Int) (x2 : List Int) : Option ((List (List Int))) :=
  (loop (sparsemake_Graph_l1 x1) ([], 0)).bind fun x33 =>
  (loop (sparsemake_Graph_l4 x2 x1) (x33, 0)).bind fun x60 =>
  (sparseref12_FromTable x60).bind fun r61 =>
  some r61

def sparsemake_At (x1 : List Int) (x3 : Int) : Option (Int) :=
  if x3 < (x1.length : Int) then
    (getI x1 x3).bind fun x5 =>
    some x5
  else
    some 0
end M
