/- Models of functions of the program, printed. -/
import Derived.Test.YtcknmegldjnjjaaM3
namespace M
open Sx
set_option linter.unusedVariables false
def graph_Sets_Join_j1 (x15 : List (List Bool)) : Option ((List (List Bool))) :=
  some x15
def graph_Sets_Join (x1 : List (List Bool)) (x4 : Int) (x5 : Int) : Option ((List (List Bool))) :=
  if x4 = x5 then
    graph_Sets_Join_j1 x1
  else
    (getI x1 x4).bind fun x17 =>
    (getI x1 x5).bind fun x19 =>
    (setI x17 x5 true).bind fun x21 =>
    (setI x1 x4 x21).bind fun x22 =>
    (getI x22 x5).bind fun x23 =>
    (setI x23 x4 true).bind fun x24 =>
    (setI x22 x5 x24).bind fun x25 =>
    graph_Sets_Join_j1 x25

def graph_Sets_List_j4 (x19 : Int) (x42 : List Int) : Option (((List Int) × Int) ⊕ (((List Int)))) :=
  some (.inl (x42, wa .i64 x19 1))
def graph_Sets_List_l3 (x4 : List Bool) : (List Int) × Int → Option (((List Int) × Int) ⊕ (((List Int)))) := fun (x18, x19) =>
  if x19 < (x4.length : Int) then
    (getI x4 x19).bind fun x37 =>
    if x37 = true then
      (app x18 [x19]).bind fun x46 =>
      graph_Sets_List_j4 x19 x46
    else
      graph_Sets_List_j4 x19 x18
  else
    some (.inr x18)
def graph_Sets_List (x1 : List (List Bool)) (x3 : Int) : Option ((List Int)) :=
  (getI x1 x3).bind fun x4 =>
  (loop (graph_Sets_List_l3 x4) ([], 0)).bind fun x35 =>
  some x35

def graph_Sets_Graph_l1 (x1 : List (List Bool)) : (List (List Int)) × Int → Option (((List (List Int)) × Int) ⊕ (((List (List Int))))) := fun (x12, x13) =>
  if x13 < (x1.length : Int) then
    (graph_Sets_List x1 x13).bind fun r22 =>
    (setI x12 x13 r22).bind fun x24 =>
    some (.inl (x24, wa .i64 x13 1))
  else
    some (.inr x12)
def graph_Sets_Graph (x1 : List (List Bool)) : Option ((List (List Int))) :=
  (mkL ([] : List Int) (x1.length : Int)).bind fun x6 =>
  (loop (graph_Sets_Graph_l1 x1) (x6, 0)).bind fun x20 =>
  some x20

def graph_induced_j13 (x86 : Int) (x101 : List (List Bool)) : Option (((List (List Bool)) × Int) ⊕ (((List (List Bool))))) :=
  some (.inl (x101, wa .i64 x86 1))
def graph_induced_l12 (x77 : List Int) (x1 : List (List Int)) (x76 : Int) (x40 : Int) : (List (List Bool)) × Int → Option (((List (List Bool)) × Int) ⊕ (((List (List Bool))))) := fun (x85, x86) =>
  if x86 < (x77.length : Int) then
    (getI x77 x86).bind fun x98 =>
    (graph_joined x1 x76 x98).bind fun r99 =>
    if r99 = true then
      (graph_Sets_Join x85 x40 x86).bind fun r103 =>
      graph_induced_j13 x86 r103
    else
      graph_induced_j13 x86 x85
  else
    some (.inr x85)
def graph_induced_l9 (x3 : List Int) (x1 : List (List Int)) : (List (List Bool)) × Int → Option (((List (List Bool)) × Int) ⊕ (((List (List Bool))))) := fun (x39, x40) =>
  if x40 < (x3.length : Int) then
    (getI x3 x40).bind fun x76 =>
    (sli x3 0 x40).bind fun x77 =>
    (loop (graph_induced_l12 x77 x1 x76 x40) (x39, 0)).bind fun x96 =>
    some (.inl (x96, wa .i64 x40 1))
  else
    some (.inr x39)
def graph_induced (x1 : List (List Int)) (x3 : List Int) : Option ((List (List Int))) :=
  (graph_NewSets (x3.length : Int)).bind fun r7 =>
  (loop (graph_induced_l9 x3 x1) (r7, 0)).bind fun x72 =>
  (graph_Sets_Graph x72).bind fun r73 =>
  some r73

def graph_Relabel (x1 : List (List Int)) (x3 : List Int) : Option ((List (List Int)) × Int) :=
  (graph_Permuted x1 x3).bind fun r7 =>
  if r7 = 0 then
    (graph_induced x1 x3).bind fun r9 =>
    some (r9, 0)
  else
    some ([], r7)

def sparseref09_Range_l3 (x1 : List Int) (x3 : Int) : Int → Option ((Int) ⊕ (Unit ⊕ Unit)) := fun x12 =>
  if x12 < (x1.length : Int) then
    (getI x1 x12).bind fun x23 =>
    (if x23 < 0 then
      some true
    else
      (getI x1 x12).bind fun x28 =>
      some (decide (x3 ≤ x28))).bind fun r25 =>
    if r25 = true then
      some (.inr (.inr ()))
    else
      some (.inl (wa .i64 x12 1))
  else
    some (.inr (.inl ()))
def sparseref09_Range (x1 : List Int) (x3 : Int) : Option (Bool) :=
  (loop (sparseref09_Range_l3 x1 x3) 0).bind (fun o => match o with
    | .inl () =>
      some true
    | .inr () =>
      some false)

def sparseref09_Twice_l1 (x1 : List Int) : Int → Option ((Int) ⊕ (Unit ⊕ Unit)) := fun x8 =>
  if x8 < (x1.length : Int) then
    (sli x1 0 x8).bind fun x16 =>
    (getI x1 x8).bind fun x17 =>
    (sparsekit_In x16 x17).bind fun r18 =>
    if r18 = true then
      some (.inr (.inr ()))
    else
      some (.inl (wa .i64 x8 1))
  else
    some (.inr (.inl ()))
def sparseref09_Twice (x1 : List Int) : Option (Bool) :=
  (loop (sparseref09_Twice_l1 x1) 0).bind (fun o => match o with
    | .inl () =>
      some false
    | .inr () =>
      some true)

def sparseref12_Table_l4 (x1 : List (List Int)) (x42 : Int) : (List Bool) × Int → Option (((List Bool) × Int) ⊕ (((List Bool)))) := fun (x96, x97) =>
  (getI x1 x42).bind fun x113 =>
  if x97 < (x113.length : Int) then
    (getI x1 x42).bind fun x116 =>
    (getI x116 x97).bind fun x118 =>
    (setI x96 x118 true).bind fun x119 =>
    some (.inl (x119, wa .i64 x97 1))
  else
    some (.inr x96)
def sparseref12_Table_l3 (x1 : List (List Int)) : (List (List Bool)) × Int → Option (((List (List Bool)) × Int) ⊕ (((List (List Bool))))) := fun (x41, x42) =>
  if x42 < (x1.length : Int) then
    (mkL false (x1.length : Int)).bind fun x88 =>
    (loop (sparseref12_Table_l4 x1 x42) (x88, 0)).bind fun x107 =>
    (app x41 [x107]).bind fun x111 =>
    some (.inl (x111, wa .i64 x42 1))
  else
    some (.inr x41)
def sparseref12_Table (x1 : List (List Int)) : Option ((List (List Bool))) :=
  (loop (sparseref12_Table_l3 x1) ([], 0)).bind fun x84 =>
  some x84

def sparseref12_empty_l1 (x1 : Int) : (List (List Bool)) × Int → Option (((List (List Bool)) × Int) ⊕ (((List (List Bool))))) := fun (x13, x14) =>
  if x14 < x1 then
    (mkL false x1).bind fun x34 =>
    (app x13 [x34]).bind fun x38 =>
    some (.inl (x38, wa .i64 x14 1))
  else
    some (.inr x13)
def sparseref12_empty (x1 : Int) : Option ((List (List Bool))) :=
  (loop (sparseref12_empty_l1 x1) ([], 0)).bind fun x30 =>
  some x30

def sparseref12_Induced_l4 (x3 : List Int) (x56 : Int) (r13 : (List (List Bool))) : (List (List Bool)) × Int → Option (((List (List Bool)) × Int) ⊕ (((List (List Bool))))) := fun (x109, x110) =>
  if x110 < (x3.length : Int) then
    (getI x109 x56).bind fun x125 =>
    (getI x3 x56).bind fun x127 =>
    (getI r13 x127).bind fun x128 =>
    (getI x3 x110).bind fun x130 =>
    (getI x128 x130).bind fun x131 =>
    (setI x125 x110 x131).bind fun x132 =>
    (setI x109 x56 x132).bind fun x133 =>
    some (.inl (x133, wa .i64 x110 1))
  else
    some (.inr x109)
def sparseref12_Induced_l3 (x3 : List Int) (r13 : (List (List Bool))) : (List (List Bool)) × Int → Option (((List (List Bool)) × Int) ⊕ (((List (List Bool))))) := fun (x55, x56) =>
  if x56 < (x3.length : Int) then
    (loop (sparseref12_Induced_l4 x3 x56 r13) (x55, 0)).bind fun x123 =>
    some (.inl (x123, wa .i64 x56 1))
  else
    some (.inr x55)
def sparseref12_Induced (x1 : List (List Int)) (x3 : List Int) : Option ((List (List Int)) × Int) :=
  (sparseref12_Check x1).bind fun r7 =>
  if r7 = 0 then
    (sparseref09_Range x3 (x1.length : Int)).bind fun r9 =>
    if r9 = true then
      (sparseref09_Twice x3).bind fun r11 =>
      if r11 = true then
        some ([], 90)
      else
        (sparseref12_Table x1).bind fun r13 =>
        (sparseref12_empty (x3.length : Int)).bind fun r16 =>
        (loop (sparseref12_Induced_l3 x3 r13) (r16, 0)).bind fun x95 =>
        (sparseref12_FromTable x95).bind fun r96 =>
        some (r96, 0)
    else
      some ([], 3)
  else
    some ([], r7)

def sparseref12_Relabel (x1 : List (List Int)) (x3 : List Int) : Option ((List (List Int)) × Int) :=
  (sparseref12_Check x1).bind fun r7 =>
  if r7 = 0 then
    if (x3.length : Int) = (x1.length : Int) then
      (sparsekit_Perm x3 (x1.length : Int)).bind fun r10 =>
      if r10 = true then
        (sparseref12_Induced x1 x3).bind fun r12 =>
        some (r12.1, r12.2)
      else
        some ([], 90)
    else
      some ([], 2)
  else
    some ([], r7)

def sparsekit_Graph (x1 : List (List Int)) (x3 : List (List Int)) : Option (Bool) :=
  (sparsekit_Lists x1 x3).bind fun r7 =>
  some r7
end M
