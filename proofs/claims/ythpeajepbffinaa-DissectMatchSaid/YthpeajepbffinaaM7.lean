/- Models of functions of the program, printed. -/
import Derived.Test.YthpeajepbffinaaM6
namespace M
open Sx
set_option linter.unusedVariables false
def sparseref09_Pack_j14 (x232 : Int) (x276 : List Int) (x278 : List Int) : Option (((List Int) × (List Int) × Int) ⊕ (((List Int) × (List Int)))) :=
  some (.inl (x276, x278, wa .i64 x232 1))
def sparseref09_Pack_l13 (x1 : Int) (x23 : List Int) (x111 : Int) (x3 : List (Int × Int × Int)) : (List Int) × (List Int) × Int → Option (((List Int) × (List Int) × Int) ⊕ (((List Int) × (List Int)))) := fun (x229, x231, x232) =>
  if x232 < x1 then
    (getI x23 (wa .i64 (wm .i64 x111 x1) x232)).bind fun x267 =>
    if (0 : Int) < x267 then
      (app x229 [x232]).bind fun x282 =>
      (getI x3 (ws .i64 x267 1)).bind fun x283 =>
      (app x231 [x283.2.2]).bind fun x286 =>
      sparseref09_Pack_j14 x232 x282 x286
    else
      sparseref09_Pack_j14 x232 x229 x231
  else
    some (.inr (x229, x231))
def sparseref09_Pack_l10 (x2 : Int) (x1 : Int) (x23 : List Int) (x3 : List (Int × Int × Int)) : (List Int) × (List Int) × (List Int) × Int → Option (((List Int) × (List Int) × (List Int) × Int) ⊕ (((List Int) × (List Int) × (List Int)))) := fun (x106, x108, x110, x111) =>
  if x111 < x2 then
    (loop (sparseref09_Pack_l13 x1 x23 x111 x3) (x108, x110, 0)).bind fun (x260, x262) =>
    (app x106 [(x260.length : Int)]).bind fun x265 =>
    some (.inl (x265, x260, x262, wa .i64 x111 1))
  else
    some (.inr (x106, x108, x110))
def sparseref09_Pack_l1 (x3 : List (Int × Int × Int)) (x1 : Int) : (List Int) × Int → Option (((List Int) × Int) ⊕ (((List Int)))) := fun (x15, x16) =>
  if x16 < (x3.length : Int) then
    (getI x3 x16).bind fun x288 =>
    (getI x3 x16).bind fun x289 =>
    (setI x15 (wa .i64 (wm .i64 x288.2.1 x1) x289.1) (wa .i64 x16 1)).bind fun x290 =>
    some (.inl (x290, wa .i64 x16 1))
  else
    some (.inr x15)
def sparseref09_Pack (x1 : Int) (x2 : Int) (x3 : List (Int × Int × Int)) : Option (Int × Int × (List Int) × (List Int) × (List Int)) :=
  (mkL 0 (wm .i64 x1 x2)).bind fun x10 =>
  (loop (sparseref09_Pack_l1 x3 x1) (x10, 0)).bind fun x23 =>
  (loop (sparseref09_Pack_l10 x2 x1 x23 x3) ([0], [], [], 0)).bind fun (x201, x203, x205) =>
  some (x1, x2, x201, x203, x205)

def matching_Maximum (x1 : Int) (x2 : Int) (x3 : List Int) (x5 : List Int) (x7 : List Int) : Option ((List Int) × Int) :=
  (matrix_Check x1 x2 x3 x5 x7).bind fun r10 =>
  if r10 = 0 then
    (matching_matched x1 x2 x3 x5 x7).bind fun r12 =>
    some (r12.2.1, 0)
  else
    some ([], r10)

def sparselaw18_DissectSmallest_j62 (x466 : Int) (x485 : Int) : Option ((Int × Int) ⊕ (Int)) :=
  some (.inl (x485, wa .i64 x466 1))
def sparselaw18_DissectSmallest_l58 (r459 : (List Int) × Int) : Int × Int → Option ((Int × Int) ⊕ (Int)) := fun (x465, x466) =>
  if x466 < (r459.1.length : Int) then
    (getI r459.1 x466).bind fun x484 =>
    if (0 : Int) ≤ x484 then
      sparselaw18_DissectSmallest_j62 x466 (wa .i64 x465 1)
    else
      sparselaw18_DissectSmallest_j62 x466 x465
  else
    some (.inr x465)
def sparselaw18_DissectSmallest_j82 (x555 : Int) (x670 : List (Int × Int × Int)) : Option (((List (Int × Int × Int)) × Int) ⊕ (((List (Int × Int × Int))) ⊕ Unit)) :=
  some (.inl (x670, wa .i64 x555 1))
def sparselaw18_DissectSmallest_l77 (r7 : (List (List Int))) (x245 : Int) (r19 : (List Int) × Int) (r10 : (List Int) × (List Int) × (List Int) × Int) : (List (Int × Int × Int)) × Int → Option (((List (Int × Int × Int)) × Int) ⊕ (((List (Int × Int × Int))) ⊕ Unit)) := fun (x554, x555) =>
  (getI r7 x245).bind fun x626 =>
  if x555 < (x626.length : Int) then
    (getI r7 x245).bind fun x671 =>
    (getI x671 x555).bind fun x673 =>
    (getI r19.1 x245).bind fun x674 =>
    (if x674 = 0 then
      (getI r19.1 x673).bind fun x679 =>
      some (!(decide (x679 = 1)))
    else
      some true).bind fun r676 =>
    if r676 = true then
      sparselaw18_DissectSmallest_j82 x555 x554
    else
      (app x554 [(x245, x673, 0)]).bind fun x683 =>
      (sparsekit_In r10.2.2.1 x245).bind fun r684 =>
      (if r684 = true then
        some false
      else
        (sparsekit_In r10.2.2.1 x673).bind fun r689 =>
        some (!(r689))).bind fun r686 =>
      if r686 = true then
        some (.inr (.inr ()))
      else
        sparselaw18_DissectSmallest_j82 x555 x683
  else
    some (.inr (.inl x554))
def sparselaw18_DissectSmallest_l55 (r6 : Int) (r7 : (List (List Int))) (r19 : (List Int) × Int) (r10 : (List Int) × (List Int) × (List Int) × Int) : (List (Int × Int × Int)) × Int → Option (((List (Int × Int × Int)) × Int) ⊕ (((List (Int × Int × Int))) ⊕ Unit)) := fun (x244, x245) =>
  if x245 < r6 then
    (loop (sparselaw18_DissectSmallest_l77 r7 x245 r19 r10) (x244, 0)).bind (fun o => match o with
      | .inl x625 =>
        some (.inl (x625, wa .i64 x245 1))
      | .inr () =>
        some (.inr (.inr ())))
  else
    some (.inr (.inl x244))
def sparselaw18_DissectSmallest (x1 : Int) (x2 : List Int) : Option (Bool) :=
  if (90 : Int) < (x2.length : Int) then
    (sparselaw18_awake).bind fun r5 =>
    some r5
  else
    (sparsekit_Place x1 19).bind fun r6 =>
    (sparsemake_Graph r6 x2).bind fun r7 =>
    (dissect_Separate r7).bind fun r10 =>
    (sparseref18_Ones r7).bind fun r15 =>
    (dissect_Bisect r15.1 r15.2.1 r15.2.2).bind fun r19 =>
    (if r10.2.2.2 = 0 then
      some (!(decide (r19.2 = 0)))
    else
      some true).bind fun r21 =>
    (if r21 = true then
      some true
    else
      some (!(decide ((r19.1.length : Int) = r6)))).bind fun r22 =>
    (if r22 = true then
      some true
    else
      (sparsekit_TwinInts r10.1).bind fun r29 =>
      (app r29 r10.2.1).bind fun x32 =>
      (app x32 r10.2.2.1).bind fun x34 =>
      (sparsekit_Perm x34 r6).bind fun r35 =>
      some (!(r35))).bind fun r23 =>
    if r23 = true then
      some false
    else
      (loop (sparselaw18_DissectSmallest_l55 r6 r7 r19 r10) ([], 0)).bind (fun o => match o with
        | .inl x454 =>
          (sparseref09_Pack r6 r6 x454).bind fun r455 =>
          (matching_Maximum r455.1 r455.2.1 r455.2.2.1 r455.2.2.2.1 r455.2.2.2.2).bind fun r459 =>
          (loop (sparselaw18_DissectSmallest_l58 r459) (0, 0)).bind fun x473 =>
          (if (((decide (r459.2 = 0)) && (decide ((r459.1.length : Int) = r6))) && (decide (x473 = (r10.2.2.1.length : Int)))) = true then
            (sparselaw18_awake).bind fun r482 =>
            some r482
          else
            some false).bind fun r479 =>
          some r479
        | .inr () =>
          some false)

def dissect_Cut_1 (x1 : Int) : Option (Bool) :=
  some ((!(decide (x1 = 0))) && (!(decide (x1 = 1))))

def slices_IndexFunc_int_v3_l1 (x1 : List Int) : Int → Option ((Int) ⊕ (Unit ⊕ Int)) := fun x7 =>
  if x7 < (x1.length : Int) then
    (getI x1 x7).bind fun x15 =>
    (dissect_Cut_1 x15).bind fun r16 =>
    if r16 = true then
      some (.inr (.inr x7))
    else
      some (.inl (wa .i64 x7 1))
  else
    some (.inr (.inl ()))
def slices_IndexFunc_int_v3 (x1 : List Int) : Option (Int) :=
  (loop (slices_IndexFunc_int_v3_l1 x1) 0).bind (fun o => match o with
    | .inl () =>
      some (-1)
    | .inr x13 =>
      some x13)

def slices_ContainsFunc_int_v3 (x1 : List Int) : Option (Bool) :=
  (slices_IndexFunc_int_v3 x1).bind fun r3 =>
  some (decide ((0 : Int) ≤ r3))

def dissect_Cut_j40 (x145 : Int) (x174 : Int) : Option ((Int × Int) ⊕ (Int)) :=
  some (.inl (x174, wa .i64 x145 1))
def dissect_Cut_l36 (x127 : List Int) (x69 : Int) (x7 : List Int) (x5 : List (List Int)) : Int × Int → Option ((Int × Int) ⊕ (Int)) := fun (x144, x145) =>
  if x145 < (x127.length : Int) then
    (getI x127 x145).bind fun x165 =>
    (if x165 < x69 then
      (getI x7 x165).bind fun x169 =>
      (getI x7 x69).bind fun x170 =>
      some (!(decide (x169 = x170)))
    else
      some false).bind fun r166 =>
    if r166 = true then
      (getI x5 x69).bind fun x176 =>
      (getI x176 x145).bind fun x178 =>
      dissect_Cut_j40 x145 (wa .i64 x144 x178)
    else
      dissect_Cut_j40 x145 x144
  else
    some (.inr x144)
def dissect_Cut_l27 (x1 : List (List Int)) (x7 : List Int) (x5 : List (List Int)) : Int × Int → Option ((Int × Int) ⊕ (Int)) := fun (x68, x69) =>
  if x69 < (x1.length : Int) then
    (getI x1 x69).bind fun x127 =>
    (loop (dissect_Cut_l36 x127 x69 x7 x5) (x68, 0)).bind fun x163 =>
    some (.inl (x163, wa .i64 x69 1))
  else
    some (.inr x68)
def dissect_Cut (x1 : List (List Int)) (x3 : List Int) (x5 : List (List Int)) (x7 : List Int) : Option (Int × Int) :=
  (dissect_CheckWeighted x1 x3 x5).bind fun r10 =>
  if r10 = 0 then
    if (x7.length : Int) = (x3.length : Int) then
      (slices_ContainsFunc_int_v3 x7).bind fun r13 =>
      if r13 = true then
        some (0, 1)
      else
        (loop (dissect_Cut_l27 x1 x7 x5) (0, 0)).bind fun x125 =>
        some (x125, 0)
    else
      some (0, 2)
  else
    some (0, r10)

def sparseref18_Total_l1 (x3 : List Int) : Int × Int → Option ((Int × Int) ⊕ (Int)) := fun (x10, x11) =>
  if x11 < (x3.length : Int) then
    (getI x3 x11).bind fun x18 =>
    some (.inl (wa .i64 x10 x18, wa .i64 x11 1))
  else
    some (.inr x10)
def sparseref18_Total (x1 : List (List Int)) (x3 : List Int) (x5 : List (List Int)) : Option (Int) :=
  (loop (sparseref18_Total_l1 x3) (0, 0)).bind fun x16 =>
  some x16

def sparsekit_Ascending_l1 (x1 : List Int) : Int → Option ((Int) ⊕ (Unit ⊕ Unit)) := fun x7 =>
  if x7 < (x1.length : Int) then
    (getI x1 x7).bind fun x14 =>
    (getI x1 (ws .i64 x7 1)).bind fun x15 =>
    if x14 ≤ x15 then
      some (.inr (.inr ()))
    else
      some (.inl (wa .i64 x7 1))
  else
    some (.inr (.inl ()))
def sparsekit_Ascending (x1 : List Int) : Option (Bool) :=
  (loop (sparsekit_Ascending_l1 x1) 1).bind (fun o => match o with
    | .inl () =>
      some true
    | .inr () =>
      some false)

def sparseref12_Check_l28 (x1 : List (List Int)) (x72 : Int) : Int → Option ((Int) ⊕ (Unit ⊕ Unit)) := fun x166 =>
  (getI x1 x72).bind fun x188 =>
  if x166 < (x188.length : Int) then
    (getI x1 x72).bind fun x191 =>
    (getI x191 x166).bind fun x193 =>
    (if (((decide (x193 < 0)) || (decide ((x1.length : Int) ≤ x193))) || (decide (x193 = x72))) = true then
      some true
    else
      (getI x1 x193).bind fun x204 =>
      (sparsekit_In x204 x72).bind fun r206 =>
      some (!(r206))).bind fun r201 =>
    if r201 = true then
      some (.inr (.inr ()))
    else
      some (.inl (wa .i64 x166 1))
  else
    some (.inr (.inl ()))
def sparseref12_Check_l21 (x1 : List (List Int)) : Int → Option ((Int) ⊕ (Unit ⊕ Unit)) := fun x72 =>
  if x72 < (x1.length : Int) then
    (getI x1 x72).bind fun x142 =>
    (sparsekit_Ascending x142).bind fun r144 =>
    if r144 = true then
      (loop (sparseref12_Check_l28 x1 x72) 0).bind (fun o => match o with
        | .inl () =>
          some (.inl (wa .i64 x72 1))
        | .inr () =>
          some (.inr (.inr ())))
    else
      some (.inr (.inr ()))
  else
    some (.inr (.inl ()))
def sparseref12_Check (x1 : List (List Int)) : Option (Int) :=
  if (200 : Int) < (x1.length : Int) then
    some 6
  else
    (loop (sparseref12_Check_l21 x1) 0).bind (fun o => match o with
      | .inl () =>
        some 0
      | .inr () =>
        some 1)
end M
