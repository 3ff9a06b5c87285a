/- Models of functions of the program, printed. -/
import Derived.Test.YtoelidgkfpmgnaaM1
namespace M
open Sx
set_option linter.unusedVariables false
def sparselaw19_EtreeLists (x1 : List Int) : Option (Bool) :=
  if (((decide ((20 : Int) < (x1.length : Int))) && (decide ((x1.length : Int) ≤ 200))) || (decide ((400 : Int) < (x1.length : Int)))) = true then
    (sparselaw19_awake).bind fun r8 =>
    some r8
  else
    (sparsekit_TwinInts x1).bind fun r9 =>
    (etree_Postorder r9).bind fun r11 =>
    (sparseref19_Postorder x1).bind fun r13 =>
    (etree_Depths r9).bind fun r15 =>
    (sparseref19_Depths x1).bind fun r17 =>
    (etree_Sizes r9).bind fun r19 =>
    (sparseref19_Sizes x1).bind fun r21 =>
    (etree_Check r9).bind fun r23 =>
    (sparseref19_Check x1).bind fun r24 =>
    (if r23 = r24 then
      (sparsekit_Ints r11.1 r13.1).bind fun r29 =>
      some r29
    else
      some false).bind fun r26 =>
    (if (r26 && (decide (r11.2 = r13.2))) = true then
      (sparsekit_Ints r15.1 r17.1).bind fun r36 =>
      some r36
    else
      some false).bind fun r33 =>
    (if (r33 && (decide (r15.2 = r17.2))) = true then
      (sparsekit_Ints r19.1 r21.1).bind fun r43 =>
      some r43
    else
      some false).bind fun r40 =>
    (if (r40 && (decide (r19.2 = r21.2))) = true then
      (sparsekit_Ints r9 x1).bind fun r50 =>
      some r50
    else
      some false).bind fun r47 =>
    (if r47 = true then
      (sparselaw19_awake).bind fun r55 =>
      some r55
    else
      some false).bind fun r52 =>
    some r52

def sparsekit_Ascending_l1 (x1 : List Int) : Int → Option ((Int) ⊕ (Unit ⊕ Unit)) := fun x7 =>
  if x7 < (x1.length : Int) then
    (getI x1 x7).bind fun x14 =>
    (getI x1 (ws .i64 x7 1)).bind fun x15 =>
    if x14 ≤ x15 then
      some (.inr (.inr ()))
    else
      some (.inl (wa .i64 x7 1))
  else
    some (.inr (.inl ()))
def sparsekit_Ascending (x1 : List Int) : Option (Bool) :=
  (loop (sparsekit_Ascending_l1 x1) 1).bind (fun o => match o with
    | .inl () =>
      some true
    | .inr () =>
      some false)

def sparsekit_In_l1 (x1 : List Int) (x3 : Int) : Int → Option ((Int) ⊕ (Unit ⊕ Unit)) := fun x7 =>
  if x7 < (x1.length : Int) then
    (getI x1 x7).bind fun x13 =>
    if x13 = x3 then
      some (.inr (.inr ()))
    else
      some (.inl (wa .i64 x7 1))
  else
    some (.inr (.inl ()))
def sparsekit_In (x1 : List Int) (x3 : Int) : Option (Bool) :=
  (loop (sparsekit_In_l1 x1 x3) 0).bind (fun o => match o with
    | .inl () =>
      some false
    | .inr () =>
      some true)

def sparseref12_Check_l28 (x1 : List (List Int)) (x72 : Int) : Int → Option ((Int) ⊕ (Unit ⊕ Unit)) := fun x166 =>
  (getI x1 x72).bind fun x188 =>
  if x166 < (x188.length : Int) then
    (getI x1 x72).bind fun x191 =>
    (getI x191 x166).bind fun x193 =>
    (if (((decide (x193 < 0)) || (decide ((x1.length : Int) ≤ x193))) || (decide (x193 = x72))) = true then
      some true
    else
      (getI x1 x193).bind fun x204 =>
      (sparsekit_In x204 x72).bind fun r206 =>
      some (!(r206))).bind fun r201 =>
    if r201 = true then
      some (.inr (.inr ()))
    else
      some (.inl (wa .i64 x166 1))
  else
    some (.inr (.inl ()))
def sparseref12_Check_l21 (x1 : List (List Int)) : Int → Option ((Int) ⊕ (Unit ⊕ Unit)) := fun x72 =>
  if x72 < (x1.length : Int) then
    (getI x1 x72).bind fun x142 =>
    (sparsekit_Ascending x142).bind fun r144 =>
    if r144 = true then
      (loop (sparseref12_Check_l28 x1 x72) 0).bind (fun o => match o with
        | .inl () =>
          some (.inl (wa .i64 x72 1))
        | .inr () =>
          some (.inr (.inr ())))
    else
      some (.inr (.inr ()))
  else
    some (.inr (.inl ()))
def sparseref12_Check (x1 : List (List Int)) : Option (Int) :=
  if (200 : Int) < (x1.length : Int) then
    some 6
  else
    (loop (sparseref12_Check_l21 x1) 0).bind (fun o => match o with
      | .inl () =>
        some 0
      | .inr () =>
        some 1)

def sparseref12_Table_l4 (x1 : List (List Int)) (x42 : Int) : (List Bool) × Int → Option (((List Bool) × Int) ⊕ (((List Bool)))) := fun (x96, x97) =>
  (getI x1 x42).bind fun x113 =>
  if x97 < (x113.length : Int) then
    (getI x1 x42).bind fun x116 =>
    (getI x116 x97).bind fun x118 =>
    (setI x96 x118 true).bind fun x119 =>
    some (.inl (x119, wa .i64 x97 1))
  else
    some (.inr x96)
def sparseref12_Table_l3 (x1 : List (List Int)) : (List (List Bool)) × Int → Option (((List (List Bool)) × Int) ⊕ (((List (List Bool))))) := fun (x41, x42) =>
  if x42 < (x1.length : Int) then
    (mkL false (x1.length : Int)).bind fun x88 =>
    (loop (sparseref12_Table_l4 x1 x42) (x88, 0)).bind fun x107 =>
    (app x41 [x107]).bind fun x111 =>
    some (.inl (x111, wa .i64 x42 1))
  else
    some (.inr x41)
def sparseref12_Table (x1 : List (List Int)) : Option ((List (List Bool))) :=
  (loop (sparseref12_Table_l3 x1) ([], 0)).bind fun x84 =>
  some x84

def sparseref16_Begin (x1 : List (List Int)) : Option ((List (List Bool)) × (List Bool)) :=
  (sparseref12_Table x1).bind fun r4 =>
  (mkL false (x1.length : Int)).bind fun x9 =>
  some (r4, x9)

def sparseref16_Elimination_Neighbours_j7 (x28 : Int) (x65 : List Int) : Option (((List Int) × Int) ⊕ (((List Int)))) :=
  some (.inl (x65, wa .i64 x28 1))
def sparseref16_Elimination_Neighbours_l5 (x2 : List (List Bool)) (x7 : Int) (x5 : List Bool) : (List Int) × Int → Option (((List Int) × Int) ⊕ (((List Int)))) := fun (x27, x28) =>
  if x28 < (x2.length : Int) then
    (getI x2 x7).bind fun x53 =>
    (getI x53 x28).bind fun x55 =>
    (if x55 = true then
      (getI x5 x28).bind fun x60 =>
      some (!(x60))
    else
      some false).bind fun r57 =>
    if r57 = true then
      (app x27 [x28]).bind fun x69 =>
      sparseref16_Elimination_Neighbours_j7 x28 x69
    else
      sparseref16_Elimination_Neighbours_j7 x28 x27
  else
    some (.inr x27)
def sparseref16_Elimination_Neighbours (x2 : List (List Bool)) (x5 : List Bool) (x7 : Int) : Option ((List Int)) :=
  (loop (sparseref16_Elimination_Neighbours_l5 x2 x7 x5) ([], 0)).bind fun x51 =>
  some x51

def sparseref16_Elimination_Eliminate_j13 (x135 : Int) (x161 : List (List Bool)) : Option (((List (List Bool)) × Int) ⊕ (((List (List Bool))))) :=
  some (.inl (x161, wa .i64 x135 1))
def sparseref16_Elimination_Eliminate_l12 (r8 : (List Int)) (x62 : Int) : (List (List Bool)) × Int → Option (((List (List Bool)) × Int) ⊕ (((List (List Bool))))) := fun (x134, x135) =>
  if x135 < (r8.length : Int) then
    if x62 = x135 then
      sparseref16_Elimination_Eliminate_j13 x135 x134
    else
      (getI r8 x62).bind fun x163 =>
      (getI x134 x163).bind fun x164 =>
      (getI r8 x135).bind fun x166 =>
      (setI x164 x166 true).bind fun x167 =>
      (setI x134 x163 x167).bind fun x168 =>
      sparseref16_Elimination_Eliminate_j13 x135 x168
  else
    some (.inr x134)
def sparseref16_Elimination_Eliminate_l9 (r8 : (List Int)) : (List (List Bool)) × Int → Option (((List (List Bool)) × Int) ⊕ (((List (List Bool))))) := fun (x61, x62) =>
  if x62 < (r8.length : Int) then
    (loop (sparseref16_Elimination_Eliminate_l12 r8 x62) (x61, 0)).bind fun x153 =>
    some (.inl (x153, wa .i64 x62 1))
  else
    some (.inr x61)
def sparseref16_Elimination_Eliminate (x2 : List (List Bool)) (x5 : List Bool) (x7 : Int) : Option ((List (List Bool)) × (List Bool)) :=
  (sparseref16_Elimination_Neighbours x2 x5 x7).bind fun r8 =>
  (loop (sparseref16_Elimination_Eliminate_l9 r8) (x2, 0)).bind fun x116 =>
  (setI x5 x7 true).bind fun x117 =>
  some (x116, x117)

def sparseref19_Parent_j4 (x25 : List Int) (x22 : List (List Bool)) (x23 : List Bool) (x26 : Int) (x49 : Int) : Option (((List (List Bool)) × (List Bool) × (List Int) × Int) ⊕ (((List Int)))) :=
  (app x25 [x49]).bind fun x52 =>
  (sparseref16_Elimination_Eliminate x22 x23 x26).bind fun r53 =>
  some (.inl (r53.1, r53.2, x52, wa .i64 x26 1))
def sparseref19_Parent_l3 (x1 : List (List Int)) : (List (List Bool)) × (List Bool) × (List Int) × Int → Option (((List (List Bool)) × (List Bool) × (List Int) × Int) ⊕ (((List Int)))) := fun (x22, x23, x25, x26) =>
  if x26 < (x1.length : Int) then
    (sparseref16_Elimination_Neighbours x22 x23 x26).bind fun r46 =>
    if (0 : Int) < (r46.length : Int) then
      (getI r46 0).bind fun x55 =>
      sparseref19_Parent_j4 x25 x22 x23 x26 x55
    else
      sparseref19_Parent_j4 x25 x22 x23 x26 (-1)
  else
    some (.inr x25)
def sparseref19_Parent (x1 : List (List Int)) : Option ((List Int) × Int) :=
  (sparseref12_Check x1).bind fun r4 =>
  if r4 = 0 then
    (sparseref16_Begin x1).bind fun r6 =>
    (loop (sparseref19_Parent_l3 x1) (r6.1, r6.2, [], 0)).bind fun x44 =>
    some (x44, 0)
  else
    some ([], r4)

def sparselaw19_EtreeMade (x1 : Int) (x2 : List Int) : Option (Bool) :=
  if (80 : Int) < (x2.length : Int) then
    (sparselaw19_awake).bind fun r5 =>
    some r5
  else
    (sparsekit_Place x1 13).bind fun r6 =>
    (sparsemake_Graph r6 x2).bind fun r7 =>
    (etree_Parent r7).bind fun r10 =>
    (sparseref19_Parent r7).bind fun r12 =>
    (if r10.2 = 0 then
      (sparsekit_Ints r10.1 r12.1).bind fun r18 =>
      some (!(r18))
    else
      some true).bind fun r15 =>
    if r15 = true then
      some false
    else
      (etree_Postorder r10.1).bind fun r20 =>
      (sparseref19_Postorder r12.1).bind fun r22 =>
      (etree_Depths r10.1).bind fun r24 =>
      (sparseref19_Depths r12.1).bind fun r26 =>
      (etree_Sizes r10.1).bind fun r28 =>
      (sparseref19_Sizes r12.1).bind fun r30 =>
      (if (((decide (r20.2 = 0)) && (decide (r24.2 = 0))) && (decide (r28.2 = 0))) = true then
        (sparsekit_Ints r20.1 r22.1).bind fun r40 =>
        some r40
      else
        some false).bind fun r37 =>
      (if r37 = true then
        (sparsekit_Ints r24.1 r26.1).bind fun r45 =>
        some r45
      else
        some false).bind fun r42 =>
      (if r42 = true then
        (sparsekit_Ints r28.1 r30.1).bind fun r50 =>
        some r50
      else
        some false).bind fun r47 =>
      (if r47 = true then
        (sparselaw19_awake).bind fun r55 =>
        some r55
      else
        some false).bind fun r52 =>
      some r52

def sparsemake_At (x1 : List Int) (x3 : Int) : Option (Int) :=
  if x3 < (x1.length : Int) then
    (getI x1 x3).bind fun x5 =>
    some x5
  else
    some 0

def sparsemake_Tree_j4 (x13 : List Int) (x14 : Int) (x31 : Int) : Option (((List Int) × Int) ⊕ (((List Int)))) :=
  (app x13 [x31]).bind fun x34 =>
  some (.inl (x34, wa .i64 x14 1))
def sparsemake_Tree_l3 (x1 : Int) (x2 : List Int) : (List Int) × Int → Option (((List Int) × Int) ⊕ (((List Int)))) := fun (x13, x14) =>
  if x14 < x1 then
    (sparsemake_At x2 x14).bind fun r29 =>
    (sparsekit_Place r29 (ws .i64 x1 x14)).bind fun r30 =>
    if (wa .i64 x14 r30) = x14 then
      sparsemake_Tree_j4 x13 x14 (-1)
    else
      sparsemake_Tree_j4 x13 x14 (wa .i64 x14 r30)
  else
    some (.inr x13)
def sparsemake_Tree (x1 : Int) (x2 : List Int) : Option ((List Int)) :=
  (loop (sparsemake_Tree_l3 x1 x2) ([], 0)).bind fun x27 =>
  some x27

def sparsekit_Perm_l5 (x3 : Int) (x1 : List Int) : (List Bool) × Int → Option (((List Bool) × Int) ⊕ (Unit ⊕ Unit)) := fun (x25, x26) =>
  if x26 < x3 then
    (getI x1 x26).bind fun x47 =>
    (if x47 < 0 then
      some true
    else
      (getI x1 x26).bind fun x52 =>
      some (decide (x3 ≤ x52))).bind fun r49 =>
    (if r49 = true then
      some true
    else
      (getI x1 x26).bind fun x58 =>
      (getI x25 x58).bind fun x59 =>
      some x59).bind fun r55 =>
    if r55 = true then
      some (.inr (.inr ()))
    else
      (getI x1 x26).bind fun x61 =>
      (setI x25 x61 true).bind fun x62 =>
      some (.inl (x62, wa .i64 x26 1))
  else
    some (.inr (.inl ()))
def sparsekit_Perm (x1 : List Int) (x3 : Int) : Option (Bool) :=
  if (x1.length : Int) = x3 then
    (mkL false x3).bind fun x7 =>
    (loop (sparsekit_Perm_l5 x3 x1) (x7, 0)).bind (fun o => match o with
      | .inl () =>
        some true
      | .inr () =>
        some false)
  else
    some false

def sparsekit_Invert_l1 (x1 : List Int) : (List Int) × Int → Option (((List Int) × Int) ⊕ (((List Int)))) := fun (x9, x10) =>
  if x10 < (x1.length : Int) then
    (getI x1 x10).bind fun x18 =>
    (setI x9 x18 x10).bind fun x19 =>
    some (.inl (x19, wa .i64 x10 1))
  else
    some (.inr x9)
def sparsekit_Invert (x1 : List Int) : Option ((List Int)) :=
  (mkL 0 (x1.length : Int)).bind fun x5 =>
  (loop (sparsekit_Invert_l1 x1) (x5, 0)).bind fun x16 =>
  some x16
end M
