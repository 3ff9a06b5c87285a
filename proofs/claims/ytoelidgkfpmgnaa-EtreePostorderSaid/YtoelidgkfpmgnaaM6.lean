/- Models of functions of the program, printed. -/
import Derived.Test.YtoelidgkfpmgnaaM5
namespace M
open Sx
set_option linter.unusedVariables false
def slices_Compact_int_l7 (x1 : List Int) : Int → Option ((Int) ⊕ (Unit)) := fun x28 =>
  if x28 < (x1.length : Int) then
    (getI x1 x28).bind fun x55 =>
    (getI x1 (ws .i64 x28 1)).bind fun x56 =>
    if x55 = x56 then
      none
    else
      some (.inl (wa .i64 x28 1))
  else
    some (.inr ())
def slices_Compact_int (x1 : List Int) : Option (Unit) :=
  if (x1.length : Int) < 2 then
    some ()
  else
    (loop (slices_Compact_int_l7 x1) 1).bind fun _ =>
    some ()

def graph_twice (x1 : List Int) : Option (Bool) :=
  (slices_Values_int x1).bind fun r3 =>
  (slices_Sorted_int x1).bind fun r5 =>
  (slices_Compact_int r5).bind fun r7 =>
  some (decide ((r5.length : Int) < (x1.length : Int)))

def graph_Permuted (x1 : List (List Int)) (x3 : List Int) : Option (Int) :=
  (graph_Check x1).bind fun r6 =>
  if r6 = 0 then
    if (x3.length : Int) = (x1.length : Int) then
      (slices_ContainsFunc_int x3 x1).bind fun r9 =>
      (if r9 = true then
        some true
      else
        (graph_twice x3).bind fun r14 =>
        some r14).bind fun r11 =>
      if r11 = true then
        some 90
      else
        some 0
    else
      some 2
  else
    some r6

def graph_NewSets_l1 (x4 : List (List Bool)) (x1 : Int) : (List (List Bool)) × Int → Option (((List (List Bool)) × Int) ⊕ (((List (List Bool))))) := fun (x12, x13) =>
  if x13 < (x4.length : Int) then
    (mkL false x1).bind fun x28 =>
    (setI x12 x13 x28).bind fun x29 =>
    some (.inl (x29, wa .i64 x13 1))
  else
    some (.inr x12)
def graph_NewSets (x1 : Int) : Option ((List (List Bool))) :=
  (mkL ([] : List Bool) x1).bind fun x4 =>
  (loop (graph_NewSets_l1 x4 x1) (x4, 0)).bind fun x24 =>
  some x24

def graph_Sets_Join_j1 (x15 : List (List Bool)) : Option ((List (List Bool))) :=
  some x15
def graph_Sets_Join (x1 : List (List Bool)) (x4 : Int) (x5 : Int) : Option ((List (List Bool))) :=
  if x4 = x5 then
    graph_Sets_Join_j1 x1
  else
    (getI x1 x4).bind fun x17 =>
    (getI x1 x5).bind fun x19 =>
    (setI x17 x5 true).bind fun x21 =>
    (setI x1 x4 x21).bind fun x22 =>
    (getI x22 x5).bind fun x23 =>
    (setI x23 x4 true).bind fun x24 =>
    (setI x22 x5 x24).bind fun x25 =>
    graph_Sets_Join_j1 x25

def graph_Sets_List_j4 (x19 : Int) (x42 : List Int) : Option (((List Int) × Int) ⊕ (((List Int)))) :=
  some (.inl (x42, wa .i64 x19 1))
def graph_Sets_List_l3 (x4 : List Bool) : (List Int) × Int → Option (((List Int) × Int) ⊕ (((List Int)))) := fun (x18, x19) =>
  if x19 < (x4.length : Int) then
    (getI x4 x19).bind fun x37 =>
    if x37 = true then
      (app x18 [x19]).bind fun x46 =>
      graph_Sets_List_j4 x19 x46
    else
      graph_Sets_List_j4 x19 x18
  else
    some (.inr x18)
def graph_Sets_List (x1 : List (List Bool)) (x3 : Int) : Option ((List Int)) :=
  (getI x1 x3).bind fun x4 =>
  (loop (graph_Sets_List_l3 x4) ([], 0)).bind fun x35 =>
  some x35

def graph_Sets_Graph_l1 (x1 : List (List Bool)) : (List (List Int)) × Int → Option (((List (List Int)) × Int) ⊕ (((List (List Int))))) := fun (x12, x13) =>
  if x13 < (x1.length : Int) then
    (graph_Sets_List x1 x13).bind fun r22 =>
    (setI x12 x13 r22).bind fun x24 =>
    some (.inl (x24, wa .i64 x13 1))
  else
    some (.inr x12)
def graph_Sets_Graph (x1 : List (List Bool)) : Option ((List (List Int))) :=
  (mkL ([] : List Int) (x1.length : Int)).bind fun x6 =>
  (loop (graph_Sets_Graph_l1 x1) (x6, 0)).bind fun x20 =>
  some x20

def graph_induced_j13 (x86 : Int) (x101 : List (List Bool)) : Option (((List (List Bool)) × Int) ⊕ (((List (List Bool))))) :=
  some (.inl (x101, wa .i64 x86 1))
def graph_induced_l12 (x77 : List Int) (x1 : List (List Int)) (x76 : Int) (x40 : Int) : (List (List Bool)) × Int → Option (((List (List Bool)) × Int) ⊕ (((List (List Bool))))) := fun (x85, x86) =>
  if x86 < (x77.length : Int) then
    (getI x77 x86).bind fun x98 =>
    (graph_joined x1 x76 x98).bind fun r99 =>
    if r99 = true then
      (graph_Sets_Join x85 x40 x86).bind fun r103 =>
      graph_induced_j13 x86 r103
    else
      graph_induced_j13 x86 x85
  else
    some (.inr x85)
def graph_induced_l9 (x3 : List Int) (x1 : List (List Int)) : (List (List Bool)) × Int → Option (((List (List Bool)) × Int) ⊕ (((List (List Bool))))) := fun (x39, x40) =>
  if x40 < (x3.length : Int) then
    (getI x3 x40).bind fun x76 =>
    (sli x3 0 x40).bind fun x77 =>
    (loop (graph_induced_l12 x77 x1 x76 x40) (x39, 0)).bind fun x96 =>
    some (.inl (x96, wa .i64 x40 1))
  else
    some (.inr x39)
def graph_induced (x1 : List (List Int)) (x3 : List Int) : Option ((List (List Int))) :=
  (graph_NewSets (x3.length : Int)).bind fun r7 =>
  (loop (graph_induced_l9 x3 x1) (r7, 0)).bind fun x72 =>
  (graph_Sets_Graph x72).bind fun r73 =>
  some r73

def graph_Relabel (x1 : List (List Int)) (x3 : List Int) : Option ((List (List Int)) × Int) :=
  (graph_Permuted x1 x3).bind fun r7 =>
  if r7 = 0 then
    (graph_induced x1 x3).bind fun r9 =>
    some (r9, 0)
  else
    some ([], r7)

def sparseref16_Degrees_l1 (x3 : List Int) : (List (List Bool)) × (List Bool) × (List Int) × Int → Option (((List (List Bool)) × (List Bool) × (List Int) × Int) ⊕ (((List Int)))) := fun (x25, x26, x28, x29) =>
  if x29 < (x3.length : Int) then
    (getI x3 x29).bind fun x47 =>
    (sparseref16_Elimination_Neighbours x25 x26 x47).bind fun r48 =>
    (app x28 [(r48.length : Int)]).bind fun x52 =>
    (getI x3 x29).bind fun x53 =>
    (sparseref16_Elimination_Eliminate x25 x26 x53).bind fun r54 =>
    some (.inl (r54.1, r54.2, x52, wa .i64 x29 1))
  else
    some (.inr x28)
def sparseref16_Degrees (x1 : List (List Int)) (x3 : List Int) : Option ((List Int) × Int) :=
  (sparseref12_Check x1).bind fun r6 =>
  if r6 = 0 then
    if (x3.length : Int) = (x1.length : Int) then
      (sparsekit_Perm x3 (x1.length : Int)).bind fun r9 =>
      if r9 = true then
        (sparseref16_Begin x1).bind fun r11 =>
        (loop (sparseref16_Degrees_l1 x3) (r11.1, r11.2, [], 0)).bind fun x45 =>
        some (x45, 0)
      else
        some ([], 90)
    else
      some ([], 2)
  else
    some ([], r6)

def sparselaw19_fill_l1 (r6 : (List Int) × Int) : Int × Int → Option ((Int × Int) ⊕ (Int)) := fun (x10, x11) =>
  if x11 < (r6.1.length : Int) then
    (getI r6.1 x11).bind fun x18 =>
    some (.inl (wa .i64 x10 x18, wa .i64 x11 1))
  else
    some (.inr x10)
def sparselaw19_fill (x1 : List (List Int)) (x3 : List Int) : Option (Int) :=
  (sparseref16_Degrees x1 x3).bind fun r6 =>
  (loop (sparselaw19_fill_l1 r6) (0, 0)).bind fun x16 =>
  some x16

def sparselaw19_EtreePostorder_j20 (r17 : (List Int) × Int) (x73 : Int) (r19 : (List Int) × Int) (x72 : List Int) (x126 : Int) : Option (((List Int) × Int) ⊕ (((List Int)) ⊕ Unit)) :=
  (getI r17.1 x73).bind fun x127 =>
  (if x127 = x126 then
    (getI r19.1 x73).bind fun x132 =>
    some (!(decide (x132 = x73)))
  else
    some true).bind fun r129 =>
  if r129 = true then
    some (.inr (.inr ()))
  else
    (app x72 [x73]).bind fun x136 =>
    some (.inl (x136, wa .i64 x73 1))
def sparselaw19_EtreePostorder_l15 (r6 : Int) (r12 : (List Int) × Int) (r10 : (List Int) × Int) (r41 : (List Int)) (r17 : (List Int) × Int) (r19 : (List Int) × Int) : (List Int) × Int → Option (((List Int) × Int) ⊕ (((List Int)) ⊕ Unit)) := fun (x72, x73) =>
  if x73 < r6 then
    (getI r12.1 x73).bind fun x114 =>
    (getI r10.1 x114).bind fun x115 =>
    (if (0 : Int) ≤ x115 then
      (getI r12.1 x73).bind fun x121 =>
      (getI r10.1 x121).bind fun x122 =>
      some (decide (x122 < r6))
    else
      some false).bind fun r118 =>
    if r118 = true then
      (getI r12.1 x73).bind fun x138 =>
      (getI r10.1 x138).bind fun x139 =>
      (getI r41 x139).bind fun x140 =>
      sparselaw19_EtreePostorder_j20 r17 x73 r19 x72 x140
    else
      sparselaw19_EtreePostorder_j20 r17 x73 r19 x72 (-1)
  else
    some (.inr (.inl x72))
def sparselaw19_EtreePostorder (x1 : Int) (x2 : List Int) : Option (Bool) :=
  if (80 : Int) < (x2.length : Int) then
    (sparselaw19_awake).bind fun r5 =>
    some r5
  else
    (sparsekit_Place x1 13).bind fun r6 =>
    (sparsemake_Graph r6 x2).bind fun r7 =>
    (etree_Parent r7).bind fun r10 =>
    (etree_Postorder r10.1).bind fun r12 =>
    (graph_Relabel r7 r12.1).bind fun r14 =>
    (etree_Parent r14.1).bind fun r17 =>
    (etree_Postorder r17.1).bind fun r19 =>
    (if (((((!(decide (r10.2 = 0))) || (!(decide (r12.2 = 0)))) || (!(decide (r14.2 = 0)))) || (!(decide (r17.2 = 0)))) || (!(decide (r19.2 = 0)))) = true then
      some true
    else
      (sparsekit_Perm r12.1 r6).bind fun r33 =>
      some (!(r33))).bind fun r30 =>
    if (((r30 || (!(decide ((r10.1.length : Int) = r6)))) || (!(decide ((r17.1.length : Int) = r6)))) || (!(decide ((r19.1.length : Int) = r6)))) = true then
      some false
    else
      (sparsekit_Invert r12.1).bind fun r41 =>
      (loop (sparselaw19_EtreePostorder_l15 r6 r12 r10 r41 r17 r19) ([], 0)).bind (fun o => match o with
        | .inl x106 =>
          (sparselaw19_fill r7 x106).bind fun r107 =>
          (sparselaw19_fill r7 r12.1).bind fun r108 =>
          (if r107 = r108 then
            (sparselaw19_awake).bind fun r112 =>
            some r112
          else
            some false).bind fun r109 =>
          some r109
        | .inr () =>
          some false)
end M
