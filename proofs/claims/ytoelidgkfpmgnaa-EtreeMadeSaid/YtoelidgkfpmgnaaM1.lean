/- Models of functions of the program, printed. -/
import Derived.Test.YtoelidgkfpmgnaaM0
namespace M
open Sx
set_option linter.unusedVariables false
def sparsekit_Ints_l1 (x1 : List Int) (x3 : List Int) : Int → Option ((Int) ⊕ (Unit ⊕ Unit)) := fun x10 =>
  if x10 < (x1.length : Int) then
    (getI x1 x10).bind fun x17 =>
    (getI x3 x10).bind fun x18 =>
    if x17 = x18 then
      some (.inl (wa .i64 x10 1))
    else
      some (.inr (.inr ()))
  else
    some (.inr (.inl ()))
def sparsekit_Ints (x1 : List Int) (x3 : List Int) : Option (Bool) :=
  if (x1.length : Int) = (x3.length : Int) then
    (loop (sparsekit_Ints_l1 x1 x3) 0).bind (fun o => match o with
      | .inl () =>
        some true
      | .inr () =>
        some false)
  else
    some false

def sparselaw19_awake : Option (Bool) :=
  (etree_Parent [[2, 3], [2], [0, 1, 3], [0, 2]]).bind fun r7 =>
  (etree_Postorder [2, (-1), (-1)]).bind fun r10 =>
  (if ((decide (r7.2 = 0)) && (decide (r10.2 = 0))) = true then
    (sparsekit_Ints r7.1 [2, 2, 3, (-1)]).bind fun r20 =>
    some r20
  else
    some false).bind fun r16 =>
  (if r16 = true then
    (sparsekit_Ints r10.1 [1, 0, 2]).bind fun r27 =>
    some r27
  else
    some false).bind fun r23 =>
  (if r23 = true then
    (etree_Check r7.1).bind fun r32 =>
    some (decide (r32 = 0))
  else
    some false).bind fun r29 =>
  some r29

def sparsekit_Place (x1 : Int) (x2 : Int) : Option (Int) :=
  (wr (wc .u64 x1) (wc .u64 x2)).bind fun x3 =>
  some (wc .i64 x3)

def sparseref12_FromTable_j40 (x299 : Int) (x377 : List Int) : Option (((List Int) × Int) ⊕ (((List Int)))) :=
  some (.inl (x377, wa .i64 x299 1))
def sparseref12_FromTable_l36 (x1 : List (List Bool)) (x130 : Int) : (List Int) × Int → Option (((List Int) × Int) ⊕ (((List Int)))) := fun (x298, x299) =>
  if x299 < (x1.length : Int) then
    (if x130 = x299 then
      some false
    else
      (getI x1 x130).bind fun x361 =>
      (getI x361 x299).bind fun x363 =>
      (if x363 = true then
        some true
      else
        (getI x1 x299).bind fun x370 =>
        (getI x370 x130).bind fun x372 =>
        some x372).bind fun r367 =>
      some r367).bind fun r358 =>
    if r358 = true then
      (app x298 [x299]).bind fun x381 =>
      sparseref12_FromTable_j40 x299 x381
    else
      sparseref12_FromTable_j40 x299 x298
  else
    some (.inr x298)
def sparseref12_FromTable_l27 (x1 : List (List Bool)) : (List (List Int)) × Int → Option (((List (List Int)) × Int) ⊕ (((List (List Int))))) := fun (x129, x130) =>
  if x130 < (x1.length : Int) then
    (loop (sparseref12_FromTable_l36 x1 x130) ([], 0)).bind fun x341 =>
    (app x129 [x341]).bind fun x344 =>
    some (.inl (x344, wa .i64 x130 1))
  else
    some (.inr x129)
def sparseref12_FromTable (x1 : List (List Bool)) : Option ((List (List Int))) :=
  (loop (sparseref12_FromTable_l27 x1) ([], 0)).bind fun x258 =>
  some x258

def sparsemake_Graph_l4 (x2 : List Int) (x1 : Int) : (List (List Bool)) × Int → Option (((List (List Bool)) × Int) ⊕ (((List (List Bool))))) := fun (x45, x46) =>
  if ((decide ((wa .i64 x46 1) < (x2.length : Int))) && (decide ((0 : Int) < x1))) = true then
    (getI x2 x46).bind fun x66 =>
    (sparsekit_Place x66 x1).bind fun r67 =>
    (getI x45 r67).bind fun x68 =>
    (getI x2 (wa .i64 x46 1)).bind fun x70 =>
    (sparsekit_Place x70 x1).bind fun r71 =>
    (setI x68 r71 true).bind fun x72 =>
    (setI x45 r67 x72).bind fun x73 =>
    some (.inl (x73, wa .i64 x46 2))
  else
    some (.inr x45)
def sparsemake_Graph_l1 (x1 : Int) : (List (List Bool)) × Int → Option (((List (List Bool)) × Int) ⊕ (((List (List Bool))))) := fun (x16, x17) =>
  if x17 < x1 then
    (mkL false x1).bind fun x77 =>
    (app x16 [x77]).bind fun x81 =>
    some (.inl (x81, wa .i64 x17 1))
  else
    some (.inr x16)
def sparsemake_Graph (x1 : Int) (x2 : List Int) : Option ((List (List Int))) :=
  (loop (sparsemake_Graph_l1 x1) ([], 0)).bind fun x33 =>
  (loop (sparsemake_Graph_l4 x2 x1) (x33, 0)).bind fun x60 =>
  (sparseref12_FromTable x60).bind fun r61 =>
  some r61

def sparseref19_Check_l7 (x1 : List Int) : Int → Option ((Int) ⊕ (Unit ⊕ Unit)) := fun x22 =>
  if x22 < (x1.length : Int) then
    (getI x1 x22).bind fun x43 =>
    (if x43 = (-1) then
      some false
    else
      (getI x1 x22).bind fun x53 =>
      (if x53 ≤ x22 then
        some true
      else
        (getI x1 x22).bind fun x58 =>
        some (decide ((x1.length : Int) ≤ x58))).bind fun r55 =>
      some r55).bind fun r50 =>
    if r50 = true then
      some (.inr (.inr ()))
    else
      some (.inl (wa .i64 x22 1))
  else
    some (.inr (.inl ()))
def sparseref19_Check (x1 : List Int) : Option (Int) :=
  if (200 : Int) < (x1.length : Int) then
    some 6
  else
    (loop (sparseref19_Check_l7 x1) 0).bind (fun o => match o with
      | .inl () =>
        some 0
      | .inr () =>
        some 190)

def sparselaw19_EtreeAncestors_j172 (x686 : Int) : Option ((Int) ⊕ (Unit ⊕ Unit)) :=
  some (.inl (wa .i64 x686 1))
def sparselaw19_EtreeAncestors_l175 (x846 : Int) (r10 : (List Int) × Int) : Int → Option ((Int) ⊕ (Int)) := fun x852 =>
  if ((decide ((0 : Int) ≤ x852)) && (decide (x852 < x846))) = true then
    (getI r10.1 x852).bind fun x873 =>
    some (.inl x873)
  else
    some (.inr x852)
def sparselaw19_EtreeAncestors_l159 (r7 : (List (List Int))) (x307 : Int) (r10 : (List Int) × Int) : Int → Option ((Int) ⊕ (Unit ⊕ Unit)) := fun x686 =>
  (getI r7 x307).bind fun x781 =>
  if x686 < (x781.length : Int) then
    (getI r7 x307).bind fun x844 =>
    (getI x844 x686).bind fun x846 =>
    if x846 < x307 then
      sparselaw19_EtreeAncestors_j172 x686
    else
      (loop (sparselaw19_EtreeAncestors_l175 x846 r10) x307).bind fun x858 =>
      (if x858 = x846 then
        (getI r10.1 x307).bind fun x863 =>
        some (decide (x863 < 0))
      else
        some true).bind fun r860 =>
      (if r860 = true then
        some true
      else
        (getI r10.1 x307).bind fun x868 =>
        some (decide (x846 < x868))).bind fun r865 =>
      if r865 = true then
        some (.inr (.inr ()))
      else
        sparselaw19_EtreeAncestors_j172 x686
  else
    some (.inr (.inl ()))
def sparselaw19_EtreeAncestors_l120 (r6 : Int) (r7 : (List (List Int))) (r10 : (List Int) × Int) : Int → Option ((Int) ⊕ (Unit ⊕ Unit)) := fun x307 =>
  if x307 < r6 then
    (loop (sparselaw19_EtreeAncestors_l159 r7 x307 r10) 0).bind (fun o => match o with
      | .inl () =>
        some (.inl (wa .i64 x307 1))
      | .inr () =>
        some (.inr (.inr ())))
  else
    some (.inr (.inl ()))
def sparselaw19_EtreeAncestors (x1 : Int) (x2 : List Int) : Option (Bool) :=
  if (80 : Int) < (x2.length : Int) then
    (sparselaw19_awake).bind fun r5 =>
    some r5
  else
    (sparsekit_Place x1 13).bind fun r6 =>
    (sparsemake_Graph r6 x2).bind fun r7 =>
    (etree_Parent r7).bind fun r10 =>
    (if ((!(decide (r10.2 = 0))) || (!(decide ((r10.1.length : Int) = r6)))) = true then
      some true
    else
      (etree_Check r10.1).bind fun r18 =>
      some (!(decide (r18 = 0)))).bind fun r15 =>
    (if r15 = true then
      some true
    else
      (sparseref19_Check r10.1).bind fun r23 =>
      some (!(decide (r23 = 0)))).bind fun r20 =>
    if r20 = true then
      some false
    else
      (loop (sparselaw19_EtreeAncestors_l120 r6 r7 r10) 0).bind (fun o => match o with
        | .inl () =>
          (sparselaw19_awake).bind fun r591 =>
          some r591
        | .inr () =>
          some false)

def sparsekit_TwinInts_l1 (x1 : List Int) : (List Int) × Int → Option (((List Int) × Int) ⊕ (((List Int)))) := fun (x9, x10) =>
  if x10 < (x1.length : Int) then
    (getI x1 x10).bind fun x22 =>
    (app x9 [x22]).bind fun x25 =>
    some (.inl (x25, wa .i64 x10 1))
  else
    some (.inr x9)
def sparsekit_TwinInts (x1 : List Int) : Option ((List Int)) :=
  (loop (sparsekit_TwinInts_l1 x1) ([], 0)).bind fun x20 =>
  some x20

def sparseref19_walk_j4 (x17 : Int) (x40 : List Int) : Option (((List Int) × Int) ⊕ (((List Int)))) :=
  some (.inl (x40, wa .i64 x17 1))
def sparseref19_walk_l3 (rec : (List Int) → Int → (List Int) → Option ((List Int))) (x3 : Int) (x1 : List Int) : (List Int) × Int → Option (((List Int) × Int) ⊕ (((List Int)))) := fun (x16, x17) =>
  if x17 < x3 then
    (getI x1 x17).bind fun x36 =>
    if x36 = x3 then
      (rec x1 x17 x16).bind fun r42 =>
      sparseref19_walk_j4 x17 r42
    else
      sparseref19_walk_j4 x17 x16
  else
    some (.inr x16)
def sparseref19_walk_body (rec : (List Int) → Int → (List Int) → Option ((List Int))) (x1 : List Int) (x3 : Int) (x4 : List Int) : Option ((List Int)) :=
  (loop (sparseref19_walk_l3 rec x3 x1) (x4, 0)).bind fun x31 =>
  (app x31 [x3]).bind fun x34 =>
  some x34
def sparseref19_walk : Nat → (List Int) → Int → (List Int) → Option ((List Int))
  | 0 => fun _ _ _ => none
  | n + 1 => sparseref19_walk_body (sparseref19_walk n)

def sparseref19_Postorder_j4 (x16 : Int) (x36 : List Int) : Option (((List Int) × Int) ⊕ (((List Int)))) :=
  some (.inl (x36, wa .i64 x16 1))
def sparseref19_Postorder_l3 (x1 : List Int) : (List Int) × Int → Option (((List Int) × Int) ⊕ (((List Int)))) := fun (x15, x16) =>
  if x16 < (x1.length : Int) then
    (getI x1 x16).bind fun x32 =>
    if x32 = (-1) then
      (sparseref19_walk FUEL x1 x16 x15).bind fun r38 =>
      sparseref19_Postorder_j4 x16 r38
    else
      sparseref19_Postorder_j4 x16 x15
  else
    some (.inr x15)
def sparseref19_Postorder (x1 : List Int) : Option ((List Int) × Int) :=
  (sparseref19_Check x1).bind fun r3 =>
  if r3 = 0 then
    (loop (sparseref19_Postorder_l3 x1) ([], 0)).bind fun x30 =>
    some (x30, 0)
  else
    some ([], r3)

def etree_Depths_j4 (x17 : Int) (x33 : List Int) : Option (((List Int) × Int) ⊕ (((List Int)))) :=
  some (.inl (x33, ws .i64 x17 1))
def etree_Depths_l3 (x1 : List Int) : (List Int) × Int → Option (((List Int) × Int) ⊕ (((List Int)))) := fun (x16, x17) =>
  if (0 : Int) ≤ x17 then
    (getI x1 x17).bind fun x30 =>
    if x30 = (-1) then
      etree_Depths_j4 x17 x16
    else
      (getI x16 x30).bind fun x35 =>
      (setI x16 x17 (wa .i64 x35 1)).bind fun x36 =>
      etree_Depths_j4 x17 x36
  else
    some (.inr x16)
def etree_Depths (x1 : List Int) : Option ((List Int) × Int) :=
  (etree_Check x1).bind fun r3 =>
  if r3 = 0 then
    (mkL 0 (x1.length : Int)).bind fun x7 =>
    (loop (etree_Depths_l3 x1) (x7, ws .i64 (x1.length : Int) 1)).bind fun x28 =>
    some (x28, 0)
  else
    some ([], r3)

def sparseref19_Depths_l4 (x1 : List Int) : Int × Int → Option ((Int × Int) ⊕ (Int)) := fun (x49, x50) =>
  if (0 : Int) ≤ x50 then
    (getI x1 x50).bind fun x60 =>
    some (.inl (wa .i64 x49 1, x60))
  else
    some (.inr x49)
def sparseref19_Depths_l3 (x1 : List Int) : (List Int) × Int → Option (((List Int) × Int) ⊕ (((List Int)))) := fun (x22, x23) =>
  if x23 < (x1.length : Int) then
    (getI x1 x23).bind fun x46 =>
    (loop (sparseref19_Depths_l4 x1) (0, x46)).bind fun x55 =>
    (app x22 [x55]).bind fun x58 =>
    some (.inl (x58, wa .i64 x23 1))
  else
    some (.inr x22)
def sparseref19_Depths (x1 : List Int) : Option ((List Int) × Int) :=
  (sparseref19_Check x1).bind fun r3 =>
  if r3 = 0 then
    (loop (sparseref19_Depths_l3 x1) ([], 0)).bind fun x44 =>
    some (x44, 0)
  else
    some ([], r3)

def etree_Sizes_j4 (x21 : Int) (x44 : List Int) : Option (((List Int) × Int) ⊕ (((List Int)))) :=
  some (.inl (x44, wa .i64 x21 1))
def etree_Sizes_l3 (x1 : List Int) : (List Int) × Int → Option (((List Int) × Int) ⊕ (((List Int)))) := fun (x20, x21) =>
  if x21 < (x1.length : Int) then
    (getI x1 x21).bind fun x38 =>
    (getI x20 x21).bind fun x39 =>
    (setI x20 x21 (wa .i64 x39 1)).bind fun x40 =>
    if x38 = (-1) then
      etree_Sizes_j4 x21 x40
    else
      (getI x40 x38).bind fun x46 =>
      (getI x40 x21).bind fun x47 =>
      (setI x40 x38 (wa .i64 x46 x47)).bind fun x48 =>
      etree_Sizes_j4 x21 x48
  else
    some (.inr x20)
def etree_Sizes (x1 : List Int) : Option ((List Int) × Int) :=
  (etree_Check x1).bind fun r3 =>
  if r3 = 0 then
    (mkL 0 (x1.length : Int)).bind fun x7 =>
    (loop (etree_Sizes_l3 x1) (x7, 0)).bind fun x36 =>
    some (x36, 0)
  else
    some ([], r3)

def sparseref19_Sizes_l4 (x1 : List Int) : (List Int) × Int → Option (((List Int) × Int) ⊕ (((List Int)))) := fun (x54, x55) =>
  if (0 : Int) ≤ x55 then
    (getI x54 x55).bind fun x64 =>
    (setI x54 x55 (wa .i64 x64 1)).bind fun x65 =>
    (getI x1 x55).bind fun x66 =>
    some (.inl (x65, x66))
  else
    some (.inr x54)
def sparseref19_Sizes_l3 (x1 : List Int) : (List Int) × Int → Option (((List Int) × Int) ⊕ (((List Int)))) := fun (x26, x27) =>
  if x27 < (x1.length : Int) then
    (loop (sparseref19_Sizes_l4 x1) (x26, x27)).bind fun x62 =>
    some (.inl (x62, wa .i64 x27 1))
  else
    some (.inr x26)
def sparseref19_Sizes (x1 : List Int) : Option ((List Int) × Int) :=
  (sparseref19_Check x1).bind fun r3 =>
  if r3 = 0 then
    (mkL 0 (x1.length : Int)).bind fun x7 =>
    (loop (sparseref19_Sizes_l3 x1) (x7, 0)).bind fun x48 =>
    some (x48, 0)
  else
    some ([], r3)
end M
