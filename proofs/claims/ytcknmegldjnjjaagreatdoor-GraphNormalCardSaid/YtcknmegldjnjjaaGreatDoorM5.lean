/- Models of functions of the program, printed. -/
import Derived.Test.YtcknmegldjnjjaaGreatDoorM4
namespace M
open Sx
set_option linter.unusedVariables false
def slices_ContainsFunc_apiFloat (x1 : List Int) : Option (Bool) :=
  (slices_IndexFunc_apiFloat x1).bind fun r3 =>
  some (decide ((0 : Int) ≤ r3))

def matrix_Check (x1 : Int) (x2 : Int) (x3 : List Int) (x5 : List Int) (x7 : List Int) : Option (Int) :=
  (matrix_within x1 0 200).bind fun r10 =>
  (if r10 = true then
    (matrix_within x2 0 200).bind fun r15 =>
    some (!(r15))
  else
    some true).bind fun r12 =>
  if (r12 || (decide ((10000 : Int) < (x5.length : Int)))) = true then
    some 6
  else
    (matrix_columns x1 x2 x3 x5 x7).bind fun r19 =>
    if r19 = true then
      (slices_ContainsFunc_apiFloat x7).bind fun r21 =>
      if r21 = true then
        some 4
      else
        some 0
    else
      some 1

def matrix_entries_l4 (x3 : List Int) (x43 : Int) (x5 : List Int) (x7 : List Int) : (List (Int × Int × Int)) × Int → Option (((List (Int × Int × Int)) × Int) ⊕ (((List (Int × Int × Int))))) := fun (x90, x91) =>
  (getI x3 (wa .i64 x43 1)).bind fun x104 =>
  if x91 < x104 then
    (getI x5 x91).bind fun x106 =>
    (getI x7 x91).bind fun x107 =>
    (app x90 [(x106, x43, x107)]).bind fun x110 =>
    some (.inl (x110, wa .i64 x91 1))
  else
    some (.inr x90)
def matrix_entries_l3 (x2 : Int) (x3 : List Int) (x5 : List Int) (x7 : List Int) : (List (Int × Int × Int)) × Int → Option (((List (Int × Int × Int)) × Int) ⊕ (((List (Int × Int × Int))))) := fun (x42, x43) =>
  if x43 < x2 then
    (getI x3 x43).bind fun x81 =>
    (loop (matrix_entries_l4 x3 x43 x5 x7) (x42, x81)).bind fun x103 =>
    some (.inl (x103, wa .i64 x43 1))
  else
    some (.inr x42)
def matrix_entries (x1 : Int) (x2 : Int) (x3 : List Int) (x5 : List Int) (x7 : List Int) : Option ((List (Int × Int × Int))) :=
  (loop (matrix_entries_l3 x2 x3 x5 x7) ([], 0)).bind fun x79 =>
  some x79

def matrix_Entries (x1 : Int) (x2 : Int) (x3 : List Int) (x5 : List Int) (x7 : List Int) : Option ((List (Int × Int × Int))) :=
  (matrix_Check x1 x2 x3 x5 x7).bind fun r10 =>
  if r10 = 0 then
    (matrix_entries x1 x2 x3 x5 x7).bind fun r12 =>
    some r12
  else
    some []

def graph_NewSets_l1 (x4 : List (List Bool)) (x1 : Int) : (List (List Bool)) × Int → Option (((List (List Bool)) × Int) ⊕ (((List (List Bool))))) := fun (x12, x13) =>
  if x13 < (x4.length : Int) then
    (mkL false x1).bind fun x28 =>
    (setI x12 x13 x28).bind fun x29 =>
    some (.inl (x29, wa .i64 x13 1))
  else
    some (.inr x12)
def graph_NewSets (x1 : Int) : Option ((List (List Bool))) :=
  (mkL ([] : List Bool) x1).bind fun x4 =>
  (loop (graph_NewSets_l1 x4 x1) (x4, 0)).bind fun x24 =>
  some x24

def graph_Sets_Join_j1 (x15 : List (List Bool)) : Option ((List (List Bool))) :=
  some x15
def graph_Sets_Join (x1 : List (List Bool)) (x4 : Int) (x5 : Int) : Option ((List (List Bool))) :=
  if x4 = x5 then
    graph_Sets_Join_j1 x1
  else
    (getI x1 x4).bind fun x17 =>
    (getI x1 x5).bind fun x19 =>
    (setI x17 x5 true).bind fun x21 =>
    (setI x1 x4 x21).bind fun x22 =>
    (getI x22 x5).bind fun x23 =>
    (setI x23 x4 true).bind fun x24 =>
    (setI x22 x5 x24).bind fun x25 =>
    graph_Sets_Join_j1 x25

def graph_Sets_List_j4 (x19 : Int) (x42 : List Int) : Option (((List Int) × Int) ⊕ (((List Int)))) :=
  some (.inl (x42, wa .i64 x19 1))
def graph_Sets_List_l3 (x4 : List Bool) : (List Int) × Int → Option (((List Int) × Int) ⊕ (((List Int)))) := fun (x18, x19) =>
  if x19 < (x4.length : Int) then
    (getI x4 x19).bind fun x37 =>
    if x37 = true then
      (app x18 [x19]).bind fun x46 =>
      graph_Sets_List_j4 x19 x46
    else
      graph_Sets_List_j4 x19 x18
  else
    some (.inr x18)
def graph_Sets_List (x1 : List (List Bool)) (x3 : Int) : Option ((List Int)) :=
  (getI x1 x3).bind fun x4 =>
  (loop (graph_Sets_List_l3 x4) ([], 0)).bind fun x35 =>
  some x35

def graph_Sets_Graph_l1 (x1 : List (List Bool)) : (List (List Int)) × Int → Option (((List (List Int)) × Int) ⊕ (((List (List Int))))) := fun (x12, x13) =>
  if x13 < (x1.length : Int) then
    (graph_Sets_List x1 x13).bind fun r22 =>
    (setI x12 x13 r22).bind fun x24 =>
    some (.inl (x24, wa .i64 x13 1))
  else
    some (.inr x12)
def graph_Sets_Graph (x1 : List (List Bool)) : Option ((List (List Int))) :=
  (mkL ([] : List Int) (x1.length : Int)).bind fun x6 =>
  (loop (graph_Sets_Graph_l1 x1) (x6, 0)).bind fun x20 =>
  some x20

def graph_FromNormal_l14 (x218 : List Int) (x217 : Int) : (List (List Bool)) × Int → Option (((List (List Bool)) × Int) ⊕ (((List (List Bool))))) := fun (x222, x223) =>
  if x223 < (x218.length : Int) then
    (getI x218 x223).bind fun x231 =>
    (graph_Sets_Join x222 x231 x217).bind fun r232 =>
    some (.inl (r232, wa .i64 x223 1))
  else
    some (.inr x222)
def graph_FromNormal_l13 (x175 : List Int) : (List (List Bool)) × Int → Option (((List (List Bool)) × Int) ⊕ (((List (List Bool))))) := fun (x194, x195) =>
  if x195 < (x175.length : Int) then
    (getI x175 x195).bind fun x217 =>
    (sli x175 0 x195).bind fun x218 =>
    (loop (graph_FromNormal_l14 x218 x217) (x194, 0)).bind fun x229 =>
    some (.inl (x229, wa .i64 x195 1))
  else
    some (.inr x194)
def graph_FromNormal_l10 (x45 : List (List Int)) : (List (List Bool)) × Int → Option (((List (List Bool)) × Int) ⊕ (((List (List Bool))))) := fun (x108, x109) =>
  if x109 < (x45.length : Int) then
    (getI x45 x109).bind fun x175 =>
    (loop (graph_FromNormal_l13 x175) (x108, 0)).bind fun x215 =>
    some (.inl (x215, wa .i64 x109 1))
  else
    some (.inr x108)
def graph_FromNormal_l1 (r16 : (List (Int × Int × Int))) : (List (List Int)) × Int → Option (((List (List Int)) × Int) ⊕ (((List (List Int))))) := fun (x29, x30) =>
  if x30 < (r16.length : Int) then
    (getI r16 x30).bind fun x234 =>
    (getI x29 x234.1).bind fun x236 =>
    (app x236 [x234.2.1]).bind fun x240 =>
    (setI x29 x234.1 x240).bind fun x241 =>
    some (.inl (x241, wa .i64 x30 1))
  else
    some (.inr x29)
def graph_FromNormal (x1 : Int) (x2 : Int) (x3 : List Int) (x5 : List Int) (x7 : List Int) : Option ((List (List Int)) × Int) :=
  (matrix_Check x1 x2 x3 x5 x7).bind fun r11 =>
  if r11 = 0 then
    (mkL ([] : List Int) x1).bind fun x15 =>
    (matrix_Entries x1 x2 x3 x5 x7).bind fun r16 =>
    (loop (graph_FromNormal_l1 r16) (x15, 0)).bind fun x45 =>
    (graph_NewSets x2).bind fun r46 =>
    (loop (graph_FromNormal_l10 x45) (r46, 0)).bind fun x171 =>
    (graph_Sets_Graph x171).bind fun r172 =>
    some (r172, 0)
  else
    some ([], r11)

def sparsekit_Shuffle_j5 (x36 : List Int) (x38 : List Int) (x39 : Int) (x65 : Int) : Option (((List Int) × (List Int) × Int) ⊕ (((List Int)))) :=
  (getI x36 x65).bind fun x66 =>
  (app x38 [x66]).bind fun x69 =>
  (sli x36 0 x65).bind fun x70 =>
  (sli x36 (wa .i64 x65 1) (x36.length : Int)).bind fun x71 =>
  (app x70 x71).bind fun x73 =>
  some (.inl (x73, x69, wa .i64 x39 1))
def sparsekit_Shuffle_l4 (x3 : Int) (x1 : List Int) : (List Int) × (List Int) × Int → Option (((List Int) × (List Int) × Int) ⊕ (((List Int)))) := fun (x36, x38, x39) =>
  if x39 < x3 then
    if x39 < (x1.length : Int) then
      (getI x1 x39).bind fun x75 =>
      (sparsekit_Place x75 (x36.length : Int)).bind fun r76 =>
      sparsekit_Shuffle_j5 x36 x38 x39 r76
    else
      sparsekit_Shuffle_j5 x36 x38 x39 0
  else
    some (.inr x38)
def sparsekit_Shuffle_l1 (x3 : Int) : (List Int) × Int → Option (((List Int) × Int) ⊕ (((List Int)))) := fun (x9, x10) =>
  if x10 < x3 then
    (app x9 [x10]).bind fun x80 =>
    some (.inl (x80, wa .i64 x10 1))
  else
    some (.inr x9)
def sparsekit_Shuffle (x1 : List Int) (x3 : Int) : Option ((List Int)) :=
  (loop (sparsekit_Shuffle_l1 x3) ([], 0)).bind fun x19 =>
  (loop (sparsekit_Shuffle_l4 x3 x1) (x19, [], 0)).bind fun x61 =>
  some x61

def matrix_places_l3 (x1 : List Int) : (List Int) × Int → Option (((List Int) × Int) ⊕ (((List Int)) ⊕ Unit)) := fun (x31, x32) =>
  if x32 < (x1.length : Int) then
    (getI x1 x32).bind fun x42 =>
    (getI x31 x42).bind fun x43 =>
    if (0 : Int) ≤ x43 then
      some (.inr (.inr ()))
    else
      (setI x31 x42 x32).bind fun x45 =>
      some (.inl (x45, wa .i64 x32 1))
  else
    some (.inr (.inl x31))
def matrix_places_l2 (x1 : List Int) (x3 : Int) : Int → Option ((Int) ⊕ (Unit ⊕ Unit)) := fun x20 =>
  if x20 < (x1.length : Int) then
    (getI x1 x20).bind fun x47 =>
    (matrix_within x47 0 (ws .i64 x3 1)).bind fun r48 =>
    if r48 = true then
      some (.inl (wa .i64 x20 1))
    else
      some (.inr (.inr ()))
  else
    some (.inr (.inl ()))
def matrix_places_l1 (x6 : List Int) : (List Int) × Int → Option (((List Int) × Int) ⊕ (((List Int)))) := fun (x9, x10) =>
  if x10 < (x6.length : Int) then
    (setI x9 x10 (-1)).bind fun x51 =>
    some (.inl (x51, wa .i64 x10 1))
  else
    some (.inr x9)
def matrix_places (x1 : List Int) (x3 : Int) : Option ((List Int) × Int) :=
  (mkL 0 x3).bind fun x6 =>
  (loop (matrix_places_l1 x6) (x6, 0)).bind fun x15 =>
  (loop (matrix_places_l2 x1 x3) 0).bind (fun o => match o with
    | .inl () =>
      (loop (matrix_places_l3 x1) (x15, 0)).bind (fun o => match o with
        | .inl x40 =>
          some (x40, 0)
        | .inr () =>
          some ([], 90))
    | .inr () =>
      some ([], 3))

def slices_Clone_apiEntry (x1 : List (Int × Int × Int)) : Option ((List (Int × Int × Int))) :=
  (app [] x1).bind fun x5 =>
  some x5
end M
