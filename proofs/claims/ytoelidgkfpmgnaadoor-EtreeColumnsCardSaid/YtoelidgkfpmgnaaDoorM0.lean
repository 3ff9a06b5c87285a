/- Models of functions of the program, printed. -/
import Derived.Test.YtoelidgkfpmgnaaDoorTm
namespace M
open Sx
set_option linter.unusedVariables false
def graph_ascending_l3 (x1 : List Int) (x3 : Int) : Int × Int → Option ((Int × Int) ⊕ (Unit ⊕ Unit)) := fun (x9, x10) =>
  if x10 < (x1.length : Int) then
    (getI x1 x10).bind fun x19 =>
    if ((decide (x19 ≤ x9)) || (decide (x3 ≤ x19))) = true then
      some (.inr (.inr ()))
    else
      some (.inl (x19, wa .i64 x10 1))
  else
    some (.inr (.inl ()))
def graph_ascending (x1 : List Int) (x3 : Int) : Option (Bool) :=
  (loop (graph_ascending_l3 x1 x3) ((-1), 0)).bind (fun o => match o with
    | .inl () =>
      some true
    | .inr () =>
      some false)

def cmp_isNaN_int (x1 : Int) : Option (Bool) :=
  some (!(decide (x1 = x1)))

def cmp_Less_int (x1 : Int) (x2 : Int) : Option (Bool) :=
  (cmp_isNaN_int x1).bind fun r3 =>
  (if r3 = true then
    (cmp_isNaN_int x2).bind fun r8 =>
    some (!(r8))
  else
    some false).bind fun r5 =>
  some (r5 || (decide (x1 < x2)))

def slices_isNaN_int (x1 : Int) : Option (Bool) :=
  some (!(decide (x1 = x1)))

def slices_BinarySearch_int_j11 (x63 : Int) (x64 : Int) : Option ((Int × Int) ⊕ (Int)) :=
  some (.inl (x63, x64))
def slices_BinarySearch_int_l3 (x1 : List Int) (x3 : Int) : Int × Int → Option ((Int × Int) ⊕ (Int)) := fun (x10, x11) =>
  if x10 < x11 then
    (getI x1 (wc .i64 (wsrc .u64 (wc .u64 (wa .i64 x10 x11)) 1))).bind fun x61 =>
    (cmp_Less_int x61 x3).bind fun r62 =>
    if r62 = true then
      slices_BinarySearch_int_j11 (wa .i64 (wc .i64 (wsrc .u64 (wc .u64 (wa .i64 x10 x11)) 1)) 1) x11
    else
      slices_BinarySearch_int_j11 x10 (wc .i64 (wsrc .u64 (wc .u64 (wa .i64 x10 x11)) 1))
  else
    some (.inr x10)
def slices_BinarySearch_int (x1 : List Int) (x3 : Int) : Option (Int × Bool) :=
  (loop (slices_BinarySearch_int_l3 x1 x3) (0, (x1.length : Int))).bind fun x20 =>
  (if x20 < (x1.length : Int) then
    (getI x1 x20).bind fun x42 =>
    (if x42 = x3 then
      some true
    else
      (getI x1 x20).bind fun x53 =>
      (slices_isNaN_int x53).bind fun r54 =>
      (if r54 = true then
        (slices_isNaN_int x3).bind fun r59 =>
        some r59
      else
        some false).bind fun r56 =>
      some r56).bind fun r50 =>
    some r50
  else
    some false).bind fun r39 =>
  some (x20, r39)

def graph_joined (x1 : List (List Int)) (x3 : Int) (x4 : Int) : Option (Bool) :=
  (getI x1 x3).bind fun x6 =>
  (slices_BinarySearch_int x6 x4).bind fun r8 =>
  some r8.2

def graph_Check_l7 (x64 : List Int) (x1 : List (List Int)) (x44 : Int) : Int → Option ((Int) ⊕ (Unit ⊕ Unit)) := fun x70 =>
  if x70 < (x64.length : Int) then
    (getI x64 x70).bind fun x77 =>
    (graph_joined x1 x77 x44).bind fun r78 =>
    if r78 = true then
      some (.inl (wa .i64 x70 1))
    else
      some (.inr (.inr ()))
  else
    some (.inr (.inl ()))
def graph_Check_l6 (x1 : List (List Int)) : Int → Option ((Int) ⊕ (Unit ⊕ Unit)) := fun x44 =>
  if x44 < (x1.length : Int) then
    (getI x1 x44).bind fun x64 =>
    (loop (graph_Check_l7 x64 x1 x44) 0).bind (fun o => match o with
      | .inl () =>
        some (.inl (wa .i64 x44 1))
      | .inr () =>
        some (.inr (.inr ())))
  else
    some (.inr (.inl ()))
def graph_Check_l3 (x1 : List (List Int)) : Int → Option ((Int) ⊕ (Unit ⊕ Unit)) := fun x15 =>
  if x15 < (x1.length : Int) then
    (getI x1 x15).bind fun x81 =>
    (graph_ascending x81 (x1.length : Int)).bind fun r83 =>
    (if r83 = true then
      (graph_joined x1 x15 x15).bind fun r88 =>
      some r88
    else
      some true).bind fun r85 =>
    if r85 = true then
      some (.inr (.inr ()))
    else
      some (.inl (wa .i64 x15 1))
  else
    some (.inr (.inl ()))
def graph_Check (x1 : List (List Int)) : Option (Int) :=
  if (200 : Int) < (x1.length : Int) then
    some 6
  else
    (loop (graph_Check_l3 x1) 0).bind (fun o => match o with
      | .inl () =>
        (loop (graph_Check_l6 x1) 0).bind (fun o => match o with
          | .inl () =>
            some 0
          | .inr () =>
            some 1)
      | .inr () =>
        some 1)

def etree_newForest_l2 (x1 : Int) : (List Int) × (List Int) × Int → Option (((List Int) × (List Int) × Int) ⊕ (((List Int) × (List Int)))) := fun (x16, x17, x18) =>
  if x18 < x1 then
    (setI x16 x18 (-1)).bind fun x28 =>
    (setI x17 x18 (-1)).bind fun x29 =>
    some (.inl (x28, x29, wa .i64 x18 1))
  else
    some (.inr (x16, x17))
def etree_newForest (x1 : Int) : Option ((List Int) × (List Int)) :=
  (mkL 0 x1).bind fun x4 =>
  (mkL 0 x1).bind fun x7 =>
  (loop (etree_newForest_l2 x1) (x4, x7, 0)).bind fun (x25, x26) =>
  some (x25, x26)

def etree_forest_join_j7 (x38 : List Int) (x37 : Int) (x40 : List Int) : Option (((List Int) × (List Int) × Int) ⊕ (((List Int) × (List Int)))) :=
  some (.inl (x40, x38, x37))
def etree_forest_join_l5 (x7 : Int) : (List Int) × (List Int) × Int → Option (((List Int) × (List Int) × Int) ⊕ (((List Int) × (List Int)))) := fun (x17, x18, x19) =>
  if ((!(decide (x19 = (-1)))) && (decide (x19 < x7))) = true then
    (getI x18 x19).bind fun x37 =>
    (setI x18 x19 x7).bind fun x38 =>
    if x37 = (-1) then
      (setI x17 x19 x7).bind fun x42 =>
      etree_forest_join_j7 x38 x37 x42
    else
      etree_forest_join_j7 x38 x37 x17
  else
    some (.inr (x17, x18))
def etree_forest_join (x2 : List Int) (x4 : List Int) (x6 : Int) (x7 : Int) : Option ((List Int) × (List Int)) :=
  (loop (etree_forest_join_l5 x7) (x2, x4, x6)).bind fun (x32, x33) =>
  some (x32, x33)

def etree_Parent_l4 (x59 : List Int) (x32 : Int) : (List Int) × (List Int) × Int → Option (((List Int) × (List Int) × Int) ⊕ (((List Int) × (List Int)))) := fun (x64, x65, x66) =>
  if x66 < (x59.length : Int) then
    (getI x59 x66).bind fun x76 =>
    (etree_forest_join x64 x65 x76 x32).bind fun r77 =>
    some (.inl (r77.1, r77.2, wa .i64 x66 1))
  else
    some (.inr (x64, x65))
def etree_Parent_l3 (x1 : List (List Int)) : (List Int) × (List Int) × Int → Option (((List Int) × (List Int) × Int) ⊕ (((List Int) × (List Int)))) := fun (x30, x31, x32) =>
  if x32 < (x1.length : Int) then
    (getI x1 x32).bind fun x59 =>
    (loop (etree_Parent_l4 x59 x32) (x30, x31, 0)).bind fun (x73, x74) =>
    some (.inl (x73, x74, wa .i64 x32 1))
  else
    some (.inr (x30, x31))
def etree_Parent (x1 : List (List Int)) : Option ((List Int) × Int) :=
  (graph_Check x1).bind fun r4 =>
  if r4 = 0 then
    (etree_newForest (x1.length : Int)).bind fun r6 =>
    (loop (etree_Parent_l3 x1) (r6.1, r6.2, 0)).bind fun (x56, x57) =>
    some (x56, 0)
  else
    some ([], r4)

def etree_Check_l7 (x1 : List Int) : Int → Option ((Int) ⊕ (Unit ⊕ Unit)) := fun x13 =>
  if x13 < (x1.length : Int) then
    (getI x1 x13).bind fun x25 =>
    if ((!(decide (x25 = (-1)))) && ((decide (x25 ≤ x13)) || (decide ((x1.length : Int) ≤ x25)))) = true then
      some (.inr (.inr ()))
    else
      some (.inl (wa .i64 x13 1))
  else
    some (.inr (.inl ()))
def etree_Check (x1 : List Int) : Option (Int) :=
  if (200 : Int) < (x1.length : Int) then
    some 6
  else
    (loop (etree_Check_l7 x1) 0).bind (fun o => match o with
      | .inl () =>
        some 0
      | .inr () =>
        some 190)

def etree_Children_j4 (x51 : Int) (x128 : List (List Int)) (x130 : List Int) : Option (((List (List Int)) × (List Int) × Int) ⊕ (((List (List Int)) × (List Int)))) :=
  some (.inl (x128, x130, wa .i64 x51 1))
def etree_Children_l3 (x1 : List Int) : (List (List Int)) × (List Int) × Int → Option (((List (List Int)) × (List Int) × Int) ⊕ (((List (List Int)) × (List Int)))) := fun (x48, x50, x51) =>
  if x51 < (x1.length : Int) then
    (getI x1 x51).bind fun x131 =>
    if x131 = (-1) then
      (app x50 [x51]).bind fun x135 =>
      etree_Children_j4 x51 x48 x135
    else
      (getI x48 x131).bind fun x136 =>
      (app x136 [x51]).bind fun x140 =>
      (setI x48 x131 x140).bind fun x141 =>
      etree_Children_j4 x51 x141 x50
  else
    some (.inr (x48, x50))
def etree_Children (x1 : List Int) : Option ((List (List Int)) × (List Int)) :=
  (mkL ([] : List Int) (x1.length : Int)).bind fun x5 =>
  (loop (etree_Children_l3 x1) (x5, [], 0)).bind fun (x99, x101) =>
  some (x99, x101)

def etree_Postorder_1_l1 (rec : Int → (List (List Int)) → (List Int) → Option ((List Int))) (x9 : List Int) (x3 : List (List Int)) : (List Int) × Int → Option (((List Int) × Int) ⊕ (((List Int)))) := fun (x16, x17) =>
  if x17 < (x9.length : Int) then
    (getI x9 x17).bind fun x31 =>
    (rec x31 x3 x16).bind fun r32 =>
    some (.inl (r32, wa .i64 x17 1))
  else
    some (.inr x16)
def etree_Postorder_1_body (rec : Int → (List (List Int)) → (List Int) → Option ((List Int))) (x1 : Int) (x3 : List (List Int)) (x7 : List Int) : Option ((List Int)) :=
  (getI x3 x1).bind fun x9 =>
  (loop (etree_Postorder_1_l1 rec x9 x3) (x7, 0)).bind fun x26 =>
  (app x26 [x1]).bind fun x29 =>
  some x29
def etree_Postorder_1 : Nat → Int → (List (List Int)) → (List Int) → Option ((List Int))
  | 0 => fun _ _ _ => none
  | n + 1 => etree_Postorder_1_body (etree_Postorder_1 n)

def etree_Postorder_l1 (r5 : (List (List Int)) × (List Int)) : (List Int) × Int → Option (((List Int) × Int) ⊕ (((List Int)))) := fun (x17, x18) =>
  if x18 < (r5.2.length : Int) then
    (getI r5.2 x18).bind fun x29 =>
    (etree_Postorder_1 FUEL x29 r5.1 x17).bind fun r30 =>
    some (.inl (r30, wa .i64 x18 1))
  else
    some (.inr x17)
def etree_Postorder (x1 : List Int) : Option ((List Int) × Int) :=
  (etree_Check x1).bind fun r3 =>
  if r3 = 0 then
    (etree_Children x1).bind fun r5 =>
    (loop (etree_Postorder_l1 r5) ([], 0)).bind fun x27 =>
    some (x27, 0)
  else
    some ([], r3)
end M
