/- Models of functions of the program, printed. -/
import Derived.Test.YtoelidgkfpmgnaaM0
namespace M
open Sx
set_option linter.unusedVariables false
def sparsekit_Ints_l1 (x1 : List Int) (x3 : List Int) : Int → Option ((Int) ⊕ (Unit ⊕ Unit)) := fun x10 =>
  if x10 < (x1.length : Int) then
    (getI x1 x10).bind fun x17 =>
    (getI x3 x10).bind fun x18 =>
    if x17 = x18 then
      some (.inl (wa .i64 x10 1))
    else
      some (.inr (.inr ()))
  else
    some (.inr (.inl ()))
def sparsekit_Ints (x1 : List Int) (x3 : List Int) : Option (Bool) :=
  if (x1.length : Int) = (x3.length : Int) then
    (loop (sparsekit_Ints_l1 x1 x3) 0).bind (fun o => match o with
      | .inl () =>
        some true
      | .inr () =>
        some false)
  else
    some false

def sparselaw19_awake : Option (Bool) :=
  (etree_Parent [[2, 3], [2], [0, 1, 3], [0, 2]]).bind fun r7 =>
  (etree_Postorder [2, (-1), (-1)]).bind fun r10 =>
  (if ((decide (r7.2 = 0)) && (decide (r10.2 = 0))) = true then
    (sparsekit_Ints r7.1 [2, 2, 3, (-1)]).bind fun r20 =>
    some r20
  else
    some false).bind fun r16 =>
  (if r16 = true then
    (sparsekit_Ints r10.1 [1, 0, 2]).bind fun r27 =>
    some r27
  else
    some false).bind fun r23 =>
  (if r23 = true then
    (etree_Check r7.1).bind fun r32 =>
    some (decide (r32 = 0))
  else
    some false).bind fun r29 =>
  some r29

def sparsekit_TwinInts_l1 (x1 : List Int) : (List Int) × Int → Option (((List Int) × Int) ⊕ (((List Int)))) := fun (x9, x10) =>
  if x10 < (x1.length : Int) then
    (getI x1 x10).bind fun x22 =>
    (app x9 [x22]).bind fun x25 =>
    some (.inl (x25, wa .i64 x10 1))
  else
    some (.inr x9)
def sparsekit_TwinInts (x1 : List Int) : Option ((List Int)) :=
  (loop (sparsekit_TwinInts_l1 x1) ([], 0)).bind fun x20 =>
  some x20

def sparseref19_Check_l7 (x1 : List Int) : Int → Option ((Int) ⊕ (Unit ⊕ Unit)) := fun x22 =>
  if x22 < (x1.length : Int) then
    (getI x1 x22).bind fun x43 =>
    (if x43 = (-1) then
      some false
    else
      (getI x1 x22).bind fun x53 =>
      (if x53 ≤ x22 then
        some true
      else
        (getI x1 x22).bind fun x58 =>
        some (decide ((x1.length : Int) ≤ x58))).bind fun r55 =>
      some r55).bind fun r50 =>
    if r50 = true then
      some (.inr (.inr ()))
    else
      some (.inl (wa .i64 x22 1))
  else
    some (.inr (.inl ()))
def sparseref19_Check (x1 : List Int) : Option (Int) :=
  if (200 : Int) < (x1.length : Int) then
    some 6
  else
    (loop (sparseref19_Check_l7 x1) 0).bind (fun o => match o with
      | .inl () =>
        some 0
      | .inr () =>
        some 190)

def sparseref19_walk_j4 (x17 : Int) (x40 : List Int) : Option (((List Int) × Int) ⊕ (((List Int)))) :=
  some (.inl (x40, wa .i64 x17 1))
def sparseref19_walk_l3 (rec : (List Int) → Int → (List Int) → Option ((List Int))) (x3 : Int) (x1 : List Int) : (List Int) × Int → Option (((List Int) × Int) ⊕ (((List Int)))) := fun (x16, x17) =>
  if x17 < x3 then
    (getI x1 x17).bind fun x36 =>
    if x36 = x3 then
      (rec x1 x17 x16).bind fun r42 =>
      sparseref19_walk_j4 x17 r42
    else
      sparseref19_walk_j4 x17 x16
  else
    some (.inr x16)
def sparseref19_walk_body (rec : (List Int) → Int → (List Int) → Option ((List Int))) (x1 : List Int) (x3 : Int) (x4 : List Int) : Option ((List Int)) :=
  (loop (sparseref19_walk_l3 rec x3 x1) (x4, 0)).bind fun x31 =>
  (app x31 [x3]).bind fun x34 =>
  some x34
def sparseref19_walk : Nat → (List Int) → Int → (List Int) → Option ((List Int))
  | 0 => fun _ _ _ => none
  | n + 1 => sparseref19_walk_body (sparseref19_walk n)

def sparseref19_Postorder_j4 (x16 : Int) (x36 : List Int) : Option (((List Int) × Int) ⊕ (((List Int)))) :=
  some (.inl (x36, wa .i64 x16 1))
def sparseref19_Postorder_l3 (x1 : List Int) : (List Int) × Int → Option (((List Int) × Int) ⊕ (((List Int)))) := fun (x15, x16) =>
  if x16 < (x1.length : Int) then
    (getI x1 x16).bind fun x32 =>
    if x32 = (-1) then
      (sparseref19_walk FUEL x1 x16 x15).bind fun r38 =>
      sparseref19_Postorder_j4 x16 r38
    else
      sparseref19_Postorder_j4 x16 x15
  else
    some (.inr x15)
def sparseref19_Postorder (x1 : List Int) : Option ((List Int) × Int) :=
  (sparseref19_Check x1).bind fun r3 =>
  if r3 = 0 then
    (loop (sparseref19_Postorder_l3 x1) ([], 0)).bind fun x30 =>
    some (x30, 0)
  else
    some ([], r3)

def etree_Depths_j4 (x17 : Int) (x33 : List Int) : Option (((List Int) × Int) ⊕ (((List Int)))) :=
  some (.inl (x33, ws .i64 x17 1))
def etree_Depths_l3 (x1 : List Int) : (List Int) × Int → Option (((List Int) × Int) ⊕ (((List Int)))) := fun (x16, x17) =>
  if (0 : Int) ≤ x17 then
    (getI x1 x17).bind fun x30 =>
    if x30 = (-1) then
      etree_Depths_j4 x17 x16
    else
      (getI x16 x30).bind fun x35 =>
      (setI x16 x17 (wa .i64 x35 1)).bind fun x36 =>
      etree_Depths_j4 x17 x36
  else
    some (.inr x16)
def etree_Depths (x1 : List Int) : Option ((List Int) × Int) :=
  (etree_Check x1).bind fun r3 =>
  if r3 = 0 then
    (mkL 0 (x1.length : Int)).bind fun x7 =>
    (loop (etree_Depths_l3 x1) (x7, ws .i64 (x1.length : Int) 1)).bind fun x28 =>
    some (x28, 0)
  else
    some ([], r3)

def sparseref19_Depths_l4 (x1 : List Int) : Int × Int → Option ((Int × Int) ⊕ (Int)) := fun (x49, x50) =>
  if (0 : Int) ≤ x50 then
    (getI x1 x50).bind fun x60 =>
    some (.inl (wa .i64 x49 1, x60))
  else
    some (.inr x49)
def sparseref19_Depths_l3 (x1 : List Int) : (List Int) × Int → Option (((List Int) × Int) ⊕ (((List Int)))) := fun (x22, x23) =>
  if x23 < (x1.length : Int) then
    (getI x1 x23).bind fun x46 =>
    (loop (sparseref19_Depths_l4 x1) (0, x46)).bind fun x55 =>
    (app x22 [x55]).bind fun x58 =>
    some (.inl (x58, wa .i64 x23 1))
  else
    some (.inr x22)
def sparseref19_Depths (x1 : List Int) : Option ((List Int) × Int) :=
  (sparseref19_Check x1).bind fun r3 =>
  if r3 = 0 then
    (loop (sparseref19_Depths_l3 x1) ([], 0)).bind fun x44 =>
    some (x44, 0)
  else
    some ([], r3)

def etree_Sizes_j4 (x21 : Int) (x44 : List Int) : Option (((List Int) × Int) ⊕ (((List Int)))) :=
  some (.inl (x44, wa .i64 x21 1))
def etree_Sizes_l3 (x1 : List Int) : (List Int) × Int → Option (((List Int) × Int) ⊕ (((List Int)))) := fun (x20, x21) =>
  if x21 < (x1.length : Int) then
    (getI x1 x21).bind fun x38 =>
    (getI x20 x21).bind fun x39 =>
    (setI x20 x21 (wa .i64 x39 1)).bind fun x40 =>
    if x38 = (-1) then
      etree_Sizes_j4 x21 x40
    else
      (getI x40 x38).bind fun x46 =>
      (getI x40 x21).bind fun x47 =>
      (setI x40 x38 (wa .i64 x46 x47)).bind fun x48 =>
      etree_Sizes_j4 x21 x48
  else
    some (.inr x20)
def etree_Sizes (x1 : List Int) : Option ((List Int) × Int) :=
  (etree_Check x1).bind fun r3 =>
  if r3 = 0 then
    (mkL 0 (x1.length : Int)).bind fun x7 =>
    (loop (etree_Sizes_l3 x1) (x7, 0)).bind fun x36 =>
    some (x36, 0)
  else
    some ([], r3)

def sparseref19_Sizes_l4 (x1 : List Int) : (List Int) × Int → Option (((List Int) × Int) ⊕ (((List Int)))) := fun (x54, x55) =>
  if (0 : Int) ≤ x55 then
    (getI x54 x55).bind fun x64 =>
    (setI x54 x55 (wa .i64 x64 1)).bind fun x65 =>
    (getI x1 x55).bind fun x66 =>
    some (.inl (x65, x66))
  else
    some (.inr x54)
def sparseref19_Sizes_l3 (x1 : List Int) : (List Int) × Int → Option (((List Int) × Int) ⊕ (((List Int)))) := fun (x26, x27) =>
  if x27 < (x1.length : Int) then
    (loop (sparseref19_Sizes_l4 x1) (x26, x27)).bind fun x62 =>
    some (.inl (x62, wa .i64 x27 1))
  else
    some (.inr x26)
def sparseref19_Sizes (x1 : List Int) : Option ((List Int) × Int) :=
  (sparseref19_Check x1).bind fun r3 =>
  if r3 = 0 then
    (mkL 0 (x1.length : Int)).bind fun x7 =>
    (loop (sparseref19_Sizes_l3 x1) (x7, 0)).bind fun x48 =>
    some (x48, 0)
  else
    some ([], r3)

def sparselaw19_EtreeLists (x1 : List Int) : Option (Bool) :=
  if (((decide ((20 : Int) < (x1.length : Int))) && (decide ((x1.length : Int) ≤ 200))) || (decide ((400 : Int) < (x1.length : Int)))) = true then
    (sparselaw19_awake).bind fun r8 =>
    some r8
  else
    (sparsekit_TwinInts x1).bind fun r9 =>
    (etree_Postorder r9).bind fun r11 =>
    (sparseref19_Postorder x1).bind fun r13 =>
    (etree_Depths r9).bind fun r15 =>
    (sparseref19_Depths x1).bind fun r17 =>
    (etree_Sizes r9).bind fun r19 =>
    (sparseref19_Sizes x1).bind fun r21 =>
    (etree_Check r9).bind fun r23 =>
    (sparseref19_Check x1).bind fun r24 =>
    (if r23 = r24 then
      (sparsekit_Ints r11.1 r13.1).bind fun r29 =>
      some r29
    else
      some false).bind fun r26 =>
    (if (r26 && (decide (r11.2 = r13.2))) = true then
      (sparsekit_Ints r15.1 r17.1).bind fun r36 =>
      some r36
    else
      some false).bind fun r33 =>
    (if (r33 && (decide (r15.2 = r17.2))) = true then
      (sparsekit_Ints r19.1 r21.1).bind fun r43 =>
      some r43
    else
      some false).bind fun r40 =>
    (if (r40 && (decide (r19.2 = r21.2))) = true then
      (sparsekit_Ints r9 x1).bind fun r50 =>
      some r50
    else
      some false).bind fun r47 =>
    (if r47 = true then
      (sparselaw19_awake).bind fun r55 =>
      some r55
    else
      some false).bind fun r52 =>
    some r52

def sparsekit_Place (x1 : Int) (x2 : Int) : Option (Int) :=
  (wr (wc .u64 x1) (wc .u64 x2)).bind fun x3 =>
  some (wc .i64 x3)

def sparsemake_At (x1 : List Int) (x3 : Int) : Option (Int) :=
  if x3 < (x1.length : Int) then
    (getI x1 x3).bind fun x5 =>
    some x5
  else
    some 0

def sparsemake_Tree_j4 (x13 : List Int) (x14 : Int) (x31 : Int) : Option (((List Int) × Int) ⊕ (((List Int)))) :=
  (app x13 [x31]).bind fun x34 =>
  some (.inl (x34, wa .i64 x14 1))
def sparsemake_Tree_l3 (x1 : Int) (x2 : List Int) : (List Int) × Int → Option (((List Int) × Int) ⊕ (((List Int)))) := fun (x13, x14) =>
  if x14 < x1 then
    (sparsemake_At x2 x14).bind fun r29 =>
    (sparsekit_Place r29 (ws .i64 x1 x14)).bind fun r30 =>
    if (wa .i64 x14 r30) = x14 then
      sparsemake_Tree_j4 x13 x14 (-1)
    else
      sparsemake_Tree_j4 x13 x14 (wa .i64 x14 r30)
  else
    some (.inr x13)
def sparsemake_Tree (x1 : Int) (x2 : List Int) : Option ((List Int)) :=
  (loop (sparsemake_Tree_l3 x1 x2) ([], 0)).bind fun x27 =>
  some x27
end M
