/- Models of functions of the program, printed. -/
import Derived.Test.YtoelidgkfpmgnaaM1
namespace M
open Sx
set_option linter.unusedVariables false
def sparsekit_Perm_l5 (x3 : Int) (x1 : List Int) : (List Bool) × Int → Option (((List Bool) × Int) ⊕ (Unit ⊕ Unit)) := fun (x25, x26) =>
  if x26 < x3 then
    (getI x1 x26).bind fun x47 =>
    (if x47 < 0 then
      some true
    else
      (getI x1 x26).bind fun x52 =>
      some (decide (x3 ≤ x52))).bind fun r49 =>
    (if r49 = true then
      some true
    else
      (getI x1 x26).bind fun x58 =>
      (getI x25 x58).bind fun x59 =>
      some x59).bind fun r55 =>
    if r55 = true then
      some (.inr (.inr ()))
    else
      (getI x1 x26).bind fun x61 =>
      (setI x25 x61 true).bind fun x62 =>
      some (.inl (x62, wa .i64 x26 1))
  else
    some (.inr (.inl ()))
def sparsekit_Perm (x1 : List Int) (x3 : Int) : Option (Bool) :=
  if (x1.length : Int) = x3 then
    (mkL false x3).bind fun x7 =>
    (loop (sparsekit_Perm_l5 x3 x1) (x7, 0)).bind (fun o => match o with
      | .inl () =>
        some true
      | .inr () =>
        some false)
  else
    some false

def sparsekit_Invert_l1 (x1 : List Int) : (List Int) × Int → Option (((List Int) × Int) ⊕ (((List Int)))) := fun (x9, x10) =>
  if x10 < (x1.length : Int) then
    (getI x1 x10).bind fun x18 =>
    (setI x9 x18 x10).bind fun x19 =>
    some (.inl (x19, wa .i64 x10 1))
  else
    some (.inr x9)
def sparsekit_Invert (x1 : List Int) : Option ((List Int)) :=
  (mkL 0 (x1.length : Int)).bind fun x5 =>
  (loop (sparsekit_Invert_l1 x1) (x5, 0)).bind fun x16 =>
  some x16

def sparselaw19_EtreeSubtrees_j58 (x106 : Int) (x238 : Int) : Option ((Int × Int) ⊕ (Int ⊕ Unit)) :=
  some (.inl (x238, wa .i64 x106 1))
def sparselaw19_EtreeSubtrees_l44 (r4 : Int) (r7 : (List Int)) (r13 : (List Int) × Int) (r11 : (List Int) × Int) (r29 : (List Int)) : Int × Int → Option ((Int × Int) ⊕ (Int ⊕ Unit)) := fun (x105, x106) =>
  if x106 < r4 then
    (getI r7 x106).bind fun x239 =>
    if x239 < 0 then
      (getI r13.1 x106).bind fun x241 =>
      (getI r11.1 x106).bind fun x242 =>
      if x242 = 0 then
        sparselaw19_EtreeSubtrees_j58 x106 (wa .i64 x105 x241)
      else
        some (.inr (.inr ()))
    else
      (getI r11.1 x106).bind fun x244 =>
      (getI r7 x106).bind fun x245 =>
      (getI r11.1 x245).bind fun x246 =>
      (if x244 = (wa .i64 x246 1) then
        (getI r29 x106).bind fun x251 =>
        (getI r7 x106).bind fun x252 =>
        (getI r29 x252).bind fun x253 =>
        some (decide (x253 < x251))
      else
        some true).bind fun r247 =>
      (if r247 = true then
        some true
      else
        (getI r29 x106).bind fun x255 =>
        (getI r13.1 x106).bind fun x256 =>
        (getI r7 x106).bind fun x257 =>
        (getI r29 x257).bind fun x258 =>
        (getI r7 x106).bind fun x259 =>
        (getI r13.1 x259).bind fun x260 =>
        some (decide ((ws .i64 x255 x256) < (ws .i64 x258 x260)))).bind fun r248 =>
      if r248 = true then
        some (.inr (.inr ()))
      else
        sparselaw19_EtreeSubtrees_j58 x106 x105
  else
    some (.inr (.inl x105))
def sparselaw19_EtreeSubtrees (x1 : Int) (x2 : List Int) : Option (Bool) :=
  (sparsekit_Place x1 13).bind fun r4 =>
  if (40 : Int) < (x2.length : Int) then
    (sparselaw19_awake).bind fun r6 =>
    some r6
  else
    (sparsemake_Tree r4 x2).bind fun r7 =>
    (etree_Postorder r7).bind fun r9 =>
    (etree_Depths r7).bind fun r11 =>
    (etree_Sizes r7).bind fun r13 =>
    (if (((!(decide (r9.2 = 0))) || (!(decide (r11.2 = 0)))) || (!(decide (r13.2 = 0)))) = true then
      some true
    else
      (sparsekit_Perm r9.1 r4).bind fun r23 =>
      some (!(r23))).bind fun r20 =>
    if ((r20 || (!(decide ((r11.1.length : Int) = r4)))) || (!(decide ((r13.1.length : Int) = r4)))) = true then
      some false
    else
      (sparsekit_Invert r9.1).bind fun r29 =>
      (loop (sparselaw19_EtreeSubtrees_l44 r4 r7 r13 r11 r29) (0, 0)).bind (fun o => match o with
        | .inl x183 =>
          (if x183 = r4 then
            (sparselaw19_awake).bind fun r188 =>
            some r188
          else
            some false).bind fun r185 =>
          some r185
        | .inr () =>
          some false)

def sparseref12_FromTable_j40 (x299 : Int) (x377 : List Int) : Option (((List Int) × Int) ⊕ (((List Int)))) :=
  some (.inl (x377, wa .i64 x299 1))
def sparseref12_FromTable_l36 (x1 : List (List Bool)) (x130 : Int) : (List Int) × Int → Option (((List Int) × Int) ⊕ (((List Int)))) := fun (x298, x299) =>
  if x299 < (x1.length : Int) then
    (if x130 = x299 then
      some false
    else
      (getI x1 x130).bind fun x361 =>
      (getI x361 x299).bind fun x363 =>
      (if x363 = true then
        some true
      else
        (getI x1 x299).bind fun x370 =>
        (getI x370 x130).bind fun x372 =>
        some x372).bind fun r367 =>
      some r367).bind fun r358 =>
    if r358 = true then
      (app x298 [x299]).bind fun x381 =>
      sparseref12_FromTable_j40 x299 x381
    else
      sparseref12_FromTable_j40 x299 x298
  else
    some (.inr x298)
def sparseref12_FromTable_l27 (x1 : List (List Bool)) : (List (List Int)) × Int → Option (((List (List Int)) × Int) ⊕ (((List (List Int))))) := fun (x129, x130) =>
  if x130 < (x1.length : Int) then
    (loop (sparseref12_FromTable_l36 x1 x130) ([], 0)).bind fun x341 =>
    (app x129 [x341]).bind fun x344 =>
    some (.inl (x344, wa .i64 x130 1))
  else
    some (.inr x129)
def sparseref12_FromTable (x1 : List (List Bool)) : Option ((List (List Int))) :=
  (loop (sparseref12_FromTable_l27 x1) ([], 0)).bind fun x258 =>
  some x258

def sparsemake_Graph_l4 (x2 : List Int) (x1 : Int) : (List (List Bool)) × Int → Option (((List (List Bool)) × Int) ⊕ (((List (List Bool))))) := fun (x45, x46) =>
  if ((decide ((wa .i64 x46 1) < (x2.length : Int))) && (decide ((0 : Int) < x1))) = true then
    (getI x2 x46).bind fun x66 =>
    (sparsekit_Place x66 x1).bind fun r67 =>
    (getI x45 r67).bind fun x68 =>
    (getI x2 (wa .i64 x46 1)).bind fun x70 =>
    (sparsekit_Place x70 x1).bind fun r71 =>
    (setI x68 r71 true).bind fun x72 =>
    (setI x45 r67 x72).bind fun x73 =>
    some (.inl (x73, wa .i64 x46 2))
  else
    some (.inr x45)
def sparsemake_Graph_l1 (x1 : Int) : (List (List Bool)) × Int → Option (((List (List Bool)) × Int) ⊕ (((List (List Bool))))) := fun (x16, x17) =>
  if x17 < x1 then
    (mkL false x1).bind fun x77 =>
    (app x16 [x77]).bind fun x81 =>
    some (.inl (x81, wa .i64 x17 1))
  else
    some (.inr x16)
def sparsemake_Graph (x1 : Int) (x2 : List Int) : Option ((List (List Int))) :=
  (loop (sparsemake_Graph_l1 x1) ([], 0)).bind fun x33 =>
  (loop (sparsemake_Graph_l4 x2 x1) (x33, 0)).bind fun x60 =>
  (sparseref12_FromTable x60).bind fun r61 =>
  some r61

def sparselaw19_EtreeAncestors_j172 (x686 : Int) : Option ((Int) ⊕ (Unit ⊕ Unit)) :=
  some (.inl (wa .i64 x686 1))
def sparselaw19_EtreeAncestors_l175 (x846 : Int) (r10 : (List Int) × Int) : Int → Option ((Int) ⊕ (Int)) := fun x852 =>
  if ((decide ((0 : Int) ≤ x852)) && (decide (x852 < x846))) = true then
    (getI r10.1 x852).bind fun x873 =>
    some (.inl x873)
  else
    some (.inr x852)
def sparselaw19_EtreeAncestors_l159 (r7 : (List (List Int))) (x307 : Int) (r10 : (List Int) × Int) : Int → Option ((Int) ⊕ (Unit ⊕ Unit)) := fun x686 =>
  (getI r7 x307).bind fun x781 =>
  if x686 < (x781.length : Int) then
    (getI r7 x307).bind fun x844 =>
    (getI x844 x686).bind fun x846 =>
    if x846 < x307 then
      sparselaw19_EtreeAncestors_j172 x686
    else
      (loop (sparselaw19_EtreeAncestors_l175 x846 r10) x307).bind fun x858 =>
      (if x858 = x846 then
        (getI r10.1 x307).bind fun x863 =>
        some (decide (x863 < 0))
      else
        some true).bind fun r860 =>
      (if r860 = true then
        some true
      else
        (getI r10.1 x307).bind fun x868 =>
        some (decide (x846 < x868))).bind fun r865 =>
      if r865 = true then
        some (.inr (.inr ()))
      else
        sparselaw19_EtreeAncestors_j172 x686
  else
    some (.inr (.inl ()))
def sparselaw19_EtreeAncestors_l120 (r6 : Int) (r7 : (List (List Int))) (r10 : (List Int) × Int) : Int → Option ((Int) ⊕ (Unit ⊕ Unit)) := fun x307 =>
  if x307 < r6 then
    (loop (sparselaw19_EtreeAncestors_l159 r7 x307 r10) 0).bind (fun o => match o with
      | .inl () =>
        some (.inl (wa .i64 x307 1))
      | .inr () =>
        some (.inr (.inr ())))
  else
    some (.inr (.inl ()))
def sparselaw19_EtreeAncestors (x1 : Int) (x2 : List Int) : Option (Bool) :=
  if (80 : Int) < (x2.length : Int) then
    (sparselaw19_awake).bind fun r5 =>
    some r5
  else
    (sparsekit_Place x1 13).bind fun r6 =>
    (sparsemake_Graph r6 x2).bind fun r7 =>
    (etree_Parent r7).bind fun r10 =>
    (if ((!(decide (r10.2 = 0))) || (!(decide ((r10.1.length : Int) = r6)))) = true then
      some true
    else
      (etree_Check r10.1).bind fun r18 =>
      some (!(decide (r18 = 0)))).bind fun r15 =>
    (if r15 = true then
      some true
    else
      (sparseref19_Check r10.1).bind fun r23 =>
      some (!(decide (r23 = 0)))).bind fun r20 =>
    if r20 = true then
      some false
    else
      (loop (sparselaw19_EtreeAncestors_l120 r6 r7 r10) 0).bind (fun o => match o with
        | .inl () =>
          (sparselaw19_awake).bind fun r591 =>
          some r591
        | .inr () =>
          some false)

def sparsekit_Ascending_l1 (x1 : List Int) : Int → Option ((Int) ⊕ (Unit ⊕ Unit)) := fun x7 =>
  if x7 < (x1.length : Int) then
    (getI x1 x7).bind fun x14 =>
    (getI x1 (ws .i64 x7 1)).bind fun x15 =>
    if x14 ≤ x15 then
      some (.inr (.inr ()))
    else
      some (.inl (wa .i64 x7 1))
  else
    some (.inr (.inl ()))
def sparsekit_Ascending (x1 : List Int) : Option (Bool) :=
  (loop (sparsekit_Ascending_l1 x1) 1).bind (fun o => match o with
    | .inl () =>
      some true
    | .inr () =>
      some false)

def sparsekit_In_l1 (x1 : List Int) (x3 : Int) : Int → Option ((Int) ⊕ (Unit ⊕ Unit)) := fun x7 =>
  if x7 < (x1.length : Int) then
    (getI x1 x7).bind fun x13 =>
    if x13 = x3 then
      some (.inr (.inr ()))
    else
      some (.inl (wa .i64 x7 1))
  else
    some (.inr (.inl ()))
def sparsekit_In (x1 : List Int) (x3 : Int) : Option (Bool) :=
  (loop (sparsekit_In_l1 x1 x3) 0).bind (fun o => match o with
    | .inl () =>
      some false
    | .inr () =>
      some true)

def sparseref12_Check_l28 (x1 : List (List Int)) (x72 : Int) : Int → Option ((Int) ⊕ (Unit ⊕ Unit)) := fun x166 =>
  (getI x1 x72).bind fun x188 =>
  if x166 < (x188.length : Int) then
    (getI x1 x72).bind fun x191 =>
    (getI x191 x166).bind fun x193 =>
    (if (((decide (x193 < 0)) || (decide ((x1.length : Int) ≤ x193))) || (decide (x193 = x72))) = true then
      some true
    else
      (getI x1 x193).bind fun x204 =>
      (sparsekit_In x204 x72).bind fun r206 =>
      some (!(r206))).bind fun r201 =>
    if r201 = true then
      some (.inr (.inr ()))
    else
      some (.inl (wa .i64 x166 1))
  else
    some (.inr (.inl ()))
def sparseref12_Check_l21 (x1 : List (List Int)) : Int → Option ((Int) ⊕ (Unit ⊕ Unit)) := fun x72 =>
  if x72 < (x1.length : Int) then
    (getI x1 x72).bind fun x142 =>
    (sparsekit_Ascending x142).bind fun r144 =>
    if r144 = true then
      (loop (sparseref12_Check_l28 x1 x72) 0).bind (fun o => match o with
        | .inl () =>
          some (.inl (wa .i64 x72 1))
        | .inr () =>
          some (.inr (.inr ())))
    else
      some (.inr (.inr ()))
  else
    some (.inr (.inl ()))
def sparseref12_Check (x1 : List (List Int)) : Option (Int) :=
  if (200 : Int) < (x1.length : Int) then
    some 6
  else
    (loop (sparseref12_Check_l21 x1) 0).bind (fun o => match o with
      | .inl () =>
        some 0
      | .inr () =>
        some 1)

def sparseref12_Table_l4 (x1 : List (List Int)) (x42 : Int) : (List Bool) × Int → Option (((List Bool) × Int) ⊕ (((List Bool)))) := fun (x96, x97) =>
  (getI x1 x42).bind fun x113 =>
  if x97 < (x113.length : Int) then
    (getI x1 x42).bind fun x116 =>
    (getI x116 x97).bind fun x118 =>
    (setI x96 x118 true).bind fun x119 =>
    some (.inl (x119, wa .i64 x97 1))
  else
    some (.inr x96)
def sparseref12_Table_l3 (x1 : List (List Int)) : (List (List Bool)) × Int → Option (((List (List Bool)) × Int) ⊕ (((List (List Bool))))) := fun (x41, x42) =>
  if x42 < (x1.length : Int) then
    (mkL false (x1.length : Int)).bind fun x88 =>
    (loop (sparseref12_Table_l4 x1 x42) (x88, 0)).bind fun x107 =>
    (app x41 [x107]).bind fun x111 =>
    some (.inl (x111, wa .i64 x42 1))
  else
    some (.inr x41)
def sparseref12_Table (x1 : List (List Int)) : Option ((List (List Bool))) :=
  (loop (sparseref12_Table_l3 x1) ([], 0)).bind fun x84 =>
  some x84

def sparseref16_Begin (x1 : List (List Int)) : Option ((List (List Bool)) × (List Bool)) :=
  (sparseref12_Table x1).bind fun r4 =>
  (mkL false (x1.length : Int)).bind fun x9 =>
  some (r4, x9)

def sparseref16_Elimination_Neighbours_j7 (x28 : Int) (x65 : List Int) : Option (((List Int) × Int) ⊕ (((List Int)))) :=
  some (.inl (x65, wa .i64 x28 1))
def sparseref16_Elimination_Neighbours_l5 (x2 : List (List Bool)) (x7 : Int) (x5 : List Bool) : (List Int) × Int → Option (((List Int) × Int) ⊕ (((List Int)))) := fun (x27, x28) =>
  if x28 < (x2.length : Int) then
    (getI x2 x7).bind fun x53 =>
    (getI x53 x28).bind fun x55 =>
    (if x55 = true then
      (getI x5 x28).bind fun x60 =>
      some (!(x60))
    else
      some false).bind fun r57 =>
    if r57 = true then
      (app x27 [x28]).bind fun x69 =>
      sparseref16_Elimination_Neighbours_j7 x28 x69
    else
      sparseref16_Elimination_Neighbours_j7 x28 x27
  else
    some (.inr x27)
def sparseref16_Elimination_Neighbours (x2 : List (List Bool)) (x5 : List Bool) (x7 : Int) : Option ((List Int)) :=
  (loop (sparseref16_Elimination_Neighbours_l5 x2 x7 x5) ([], 0)).bind fun x51 =>
  some x51

def sparseref16_Elimination_Eliminate_j13 (x135 : Int) (x161 : List (List Bool)) : Option (((List (List Bool)) × Int) ⊕ (((List (List Bool))))) :=
  some (.inl (x161, wa .i64 x135 1))
def sparseref16_Elimination_Eliminate_l12 (r8 : (List Int)) (x62 : Int) : (List (List Bool)) × Int → Option (((List (List Bool)) × Int) ⊕ (((List (List Bool))))) := fun (x134, x135) =>
  if x135 < (r8.length : Int) then
    if x62 = x135 then
      sparseref16_Elimination_Eliminate_j13 x135 x134
    else
      (getI r8 x62).bind fun x163 =>
      (getI x134 x163).bind fun x164 =>
      (getI r8 x135).bind fun x166 =>
      (setI x164 x166 true).bind fun x167 =>
      (setI x134 x163 x167).bind fun x168 =>
      sparseref16_Elimination_Eliminate_j13 x135 x168
  else
    some (.inr x134)
def sparseref16_Elimination_Eliminate_l9 (r8 : (List Int)) : (List (List Bool)) × Int → Option (((List (List Bool)) × Int) ⊕ (((List (List Bool))))) := fun (x61, x62) =>
  if x62 < (r8.length : Int) then
    (loop (sparseref16_Elimination_Eliminate_l12 r8 x62) (x61, 0)).bind fun x153 =>
    some (.inl (x153, wa .i64 x62 1))
  else
    some (.inr x61)
def sparseref16_Elimination_Eliminate (x2 : List (List Bool)) (x5 : List Bool) (x7 : Int) : Option ((List (List Bool)) × (List Bool)) :=
  (sparseref16_Elimination_Neighbours x2 x5 x7).bind fun r8 =>
  (loop (sparseref16_Elimination_Eliminate_l9 r8) (x2, 0)).bind fun x116 =>
  (setI x5 x7 true).bind fun x117 =>
  some (x116, x117)

def sparseref19_Parent_j4 (x25 : List Int) (x22 : List (List Bool)) (x23 : List Bool) (x26 : Int) (x49 : Int) : Option (((List (List Bool)) × (List Bool) × (List Int) × Int) ⊕ (((List Int)))) :=
  (app x25 [x49]).bind fun x52 =>
  (sparseref16_Elimination_Eliminate x22 x23 x26).bind fun r53 =>
  some (.inl (r53.1, r53.2, x52, wa .i64 x26 1))
def sparseref19_Parent_l3 (x1 : List (List Int)) : (List (List Bool)) × (List Bool) × (List Int) × Int → Option (((List (List Bool)) × (List Bool) × (List Int) × Int) ⊕ (((List Int)))) := fun (x22, x23, x25, x26) =>
  if x26 < (x1.length : Int) then
    (sparseref16_Elimination_Neighbours x22 x23 x26).bind fun r46 =>
    if (0 : Int) < (r46.length : Int) then
      (getI r46 0).bind fun x55 =>
      sparseref19_Parent_j4 x25 x22 x23 x26 x55
    else
      sparseref19_Parent_j4 x25 x22 x23 x26 (-1)
  else
    some (.inr x25)
def sparseref19_Parent (x1 : List (List Int)) : Option ((List Int) × Int) :=
  (sparseref12_Check x1).bind fun r4 =>
  if r4 = 0 then
    (sparseref16_Begin x1).bind fun r6 =>
    (loop (sparseref19_Parent_l3 x1) (r6.1, r6.2, [], 0)).bind fun x44 =>
    some (x44, 0)
  else
    some ([], r4)
end M
