/- Models of functions of the program, printed. -/
import Derived.Test.YtcknmegldjnjjaaM1
namespace M
open Sx
set_option linter.unusedVariables false
def slices_IndexFunc_int_l1 (x1 : List Int) (x4 : List (List Int)) : Int → Option ((Int) ⊕ (Unit ⊕ Int)) := fun x10 =>
  if x10 < (x1.length : Int) then
    (getI x1 x10).bind fun x18 =>
    (graph_Permuted_1 x18 x4).bind fun r19 =>
    if r19 = true then
      some (.inr (.inr x10))
    else
      some (.inl (wa .i64 x10 1))
  else
    some (.inr (.inl ()))
def slices_IndexFunc_int (x1 : List Int) (x4 : List (List Int)) : Option (Int) :=
  (loop (slices_IndexFunc_int_l1 x1 x4) 0).bind (fun o => match o with
    | .inl () =>
      some (-1)
    | .inr x16 =>
      some x16)

def slices_ContainsFunc_int (x1 : List Int) (x4 : List (List Int)) : Option (Bool) :=
  (slices_IndexFunc_int x1 x4).bind fun r6 =>
  some (decide ((0 : Int) ≤ r6))

def slices_Values_int (x1 : List Int) : Option (Unit) :=
  some ()

def slices_Collect_int (x2 : List Int) : Option ((List Int)) :=
  (colV x2).bind fun r4 =>
  some r4

def slices_Sorted_int (x2 : List Int) : Option ((List Int)) :=
  (slices_Collect_int x2).bind fun r4 =>
  (sortI r4).bind fun r6 =>
  some r6

def graph_twice (x1 : List Int) : Option (Bool) :=
  (slices_Values_int x1).bind fun r3 =>
  (slices_Sorted_int x1).bind fun r5 =>
  (compactI r5).bind fun r7 =>
  some (decide ((r7.length : Int) < (x1.length : Int)))

def graph_Permuted (x1 : List (List Int)) (x3 : List Int) : Option (Int) :=
  (graph_Check x1).bind fun r6 =>
  if r6 = 0 then
    if (x3.length : Int) = (x1.length : Int) then
      (slices_ContainsFunc_int x3 x1).bind fun r9 =>
      (if r9 = true then
        some true
      else
        (graph_twice x3).bind fun r14 =>
        some r14).bind fun r11 =>
      if r11 = true then
        some 90
      else
        some 0
    else
      some 2
  else
    some r6

def graph_NewSets_l1 (x4 : List (List Bool)) (x1 : Int) : (List (List Bool)) × Int → Option (((List (List Bool)) × Int) ⊕ (((List (List Bool))))) := fun (x12, x13) =>
  if x13 < (x4.length : Int) then
    (mkL false x1).bind fun x28 =>
    (setI x12 x13 x28).bind fun x29 =>
    some (.inl (x29, wa .i64 x13 1))
  else
    some (.inr x12)
def graph_NewSets (x1 : Int) : Option ((List (List Bool))) :=
  (mkL ([] : List Bool) x1).bind fun x4 =>
  (loop (graph_NewSets_l1 x4 x1) (x4, 0)).bind fun x24 =>
  some x24

def graph_Sets_Join_j1 (x15 : List (List Bool)) : Option ((List (List Bool))) :=
  some x15
def graph_Sets_Join (x1 : List (List Bool)) (x4 : Int) (x5 : Int) : Option ((List (List Bool))) :=
  if x4 = x5 then
    graph_Sets_Join_j1 x1
  else
    (getI x1 x4).bind fun x17 =>
    (getI x1 x5).bind fun x19 =>
    (setI x17 x5 true).bind fun x21 =>
    (setI x1 x4 x21).bind fun x22 =>
    (getI x22 x5).bind fun x23 =>
    (setI x23 x4 true).bind fun x24 =>
    (setI x22 x5 x24).bind fun x25 =>
    graph_Sets_Join_j1 x25

def graph_Sets_List_j4 (x19 : Int) (x42 : List Int) : Option (((List Int) × Int) ⊕ (((List Int)))) :=
  some (.inl (x42, wa .i64 x19 1))
def graph_Sets_List_l3 (x4 : List Bool) : (List Int) × Int → Option (((List Int) × Int) ⊕ (((List Int)))) := fun (x18, x19) =>
  if x19 < (x4.length : Int) then
    (getI x4 x19).bind fun x37 =>
    if x37 = true then
      (app x18 [x19]).bind fun x46 =>
      graph_Sets_List_j4 x19 x46
    else
      graph_Sets_List_j4 x19 x18
  else
    some (.inr x18)
def graph_Sets_List (x1 : List (List Bool)) (x3 : Int) : Option ((List Int)) :=
  (getI x1 x3).bind fun x4 =>
  (loop (graph_Sets_List_l3 x4) ([], 0)).bind fun x35 =>
  some x35

def graph_Sets_Graph_l1 (x1 : List (List Bool)) : (List (List Int)) × Int → Option (((List (List Int)) × Int) ⊕ (((List (List Int))))) := fun (x12, x13) =>
  if x13 < (x1.length : Int) then
    (graph_Sets_List x1 x13).bind fun r22 =>
    (setI x12 x13 r22).bind fun x24 =>
    some (.inl (x24, wa .i64 x13 1))
  else
    some (.inr x12)
def graph_Sets_Graph (x1 : List (List Bool)) : Option ((List (List Int))) :=
  (mkL ([] : List Int) (x1.length : Int)).bind fun x6 =>
  (loop (graph_Sets_Graph_l1 x1) (x6, 0)).bind fun x20 =>
  some x20

def graph_induced_j13 (x86 : Int) (x101 : List (List Bool)) : Option (((List (List Bool)) × Int) ⊕ (((List (List Bool))))) :=
  some (.inl (x101, wa .i64 x86 1))
def graph_induced_l12 (x77 : List Int) (x1 : List (List Int)) (x76 : Int) (x40 : Int) : (List (List Bool)) × Int → Option (((List (List Bool)) × Int) ⊕ (((List (List Bool))))) := fun (x85, x86) =>
  if x86 < (x77.length : Int) then
    (getI x77 x86).bind fun x98 =>
    (graph_joined x1 x76 x98).bind fun r99 =>
    if r99 = true then
      (graph_Sets_Join x85 x40 x86).bind fun r103 =>
      graph_induced_j13 x86 r103
    else
      graph_induced_j13 x86 x85
  else
    some (.inr x85)
def graph_induced_l9 (x3 : List Int) (x1 : List (List Int)) : (List (List Bool)) × Int → Option (((List (List Bool)) × Int) ⊕ (((List (List Bool))))) := fun (x39, x40) =>
  if x40 < (x3.length : Int) then
    (getI x3 x40).bind fun x76 =>
    (sli x3 0 x40).bind fun x77 =>
    (loop (graph_induced_l12 x77 x1 x76 x40) (x39, 0)).bind fun x96 =>
    some (.inl (x96, wa .i64 x40 1))
  else
    some (.inr x39)
def graph_induced (x1 : List (List Int)) (x3 : List Int) : Option ((List (List Int))) :=
  (graph_NewSets (x3.length : Int)).bind fun r7 =>
  (loop (graph_induced_l9 x3 x1) (r7, 0)).bind fun x72 =>
  (graph_Sets_Graph x72).bind fun r73 =>
  some r73
end M
