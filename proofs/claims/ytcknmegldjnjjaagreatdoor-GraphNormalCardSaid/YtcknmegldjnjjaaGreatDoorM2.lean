/- Models of functions of the program, printed. -/
import Derived.Test.YtcknmegldjnjjaaGreatDoorM1
namespace M
open Sx
set_option linter.unusedVariables false
def sparseref01_Abs (x1 : Bool) (x2 : List Int) : Option (Bool × (List Int)) :=
  (sparseref01_make1 false x2).bind fun r6 =>
  some (r6.1, r6.2)

def sparseref01_shl_l1 (x1 : List Int) (x3 : Int) : (List Int) × Int × Int → Option (((List Int) × Int × Int) ⊕ (((List Int) × Int))) := fun (x14, x15, x16) =>
  if x16 < (x1.length : Int) then
    (getI x1 x16).bind fun x34 =>
    (wshl .u64 (wc .u64 x34) (wrc x3 32)).bind fun x35 =>
    (app x14 [wc .u32 (wor .u64 x15 x35)]).bind fun x38 =>
    some (.inl (x38, wsrc .u64 (wor .u64 x15 x35) 32, wa .i64 x16 1))
  else
    some (.inr (x14, x15))
def sparseref01_shl (x1 : List Int) (x3 : Int) : Option ((List Int)) :=
  (mkL 0 (wqc .i64 x3 32)).bind fun x6 =>
  (loop (sparseref01_shl_l1 x1 x3) (x6, 0, 0)).bind fun (x28, x29) =>
  (app x28 [wc .u32 x29]).bind fun x32 =>
  some x32

def sparseref01_shr_j20 (x69 : Int) (x3 : Int) (x40 : List Int) (x41 : Int) (x75 : Bool) : Option ((Bool × (List Int) × Int) ⊕ ((Bool × (List Int)))) :=
  (wshr .u64 x69 (wrc x3 32)).bind fun x76 =>
  (app x40 [wc .u32 x76]).bind fun x79 =>
  some (.inl (x75, x79, wa .i64 x41 1))
def sparseref01_shr_j16 (x41 : Int) (x3 : Int) (x1 : List Int) (x40 : List Int) (x38 : Bool) (x69 : Int) : Option ((Bool × (List Int) × Int) ⊕ ((Bool × (List Int)))) :=
  (if x41 = (wqc .i64 x3 32) then
    (getI x1 x41).bind fun x73 =>
    (wshl .u32 1 (wrc x3 32)).bind fun x74 =>
    some (!(decide ((wand .u32 x73 (ws .u32 x74 1)) = 0)))
  else
    some false).bind fun r70 =>
  if r70 = true then
    sparseref01_shr_j20 x69 x3 x40 x41 true
  else
    sparseref01_shr_j20 x69 x3 x40 x41 x38
def sparseref01_shr_l15 (x1 : List Int) (x3 : Int) : Bool × (List Int) × Int → Option ((Bool × (List Int) × Int) ⊕ ((Bool × (List Int)))) := fun (x38, x40, x41) =>
  if x41 < (x1.length : Int) then
    (getI x1 x41).bind fun x67 =>
    if (wa .i64 x41 1) < (x1.length : Int) then
      (getI x1 (wa .i64 x41 1)).bind fun x82 =>
      sparseref01_shr_j16 x41 x3 x1 x40 x38 (wor .u64 (wc .u64 x67) (wslc .u64 (wc .u64 x82) 32))
    else
      sparseref01_shr_j16 x41 x3 x1 x40 x38 (wc .u64 x67)
  else
    some (.inr (x38, x40))
def sparseref01_shr_l4 (x3 : Int) (x1 : List Int) : Bool × Int → Option ((Bool × Int) ⊕ (Bool)) := fun (x8, x9) =>
  if ((decide (x9 < (wqc .i64 x3 32))) && (decide (x9 < (x1.length : Int)))) = true then
    (if x8 = true then
      some true
    else
      (getI x1 x9).bind fun x90 =>
      some (!(decide (x90 = 0)))).bind fun r87 =>
    some (.inl (r87, wa .i64 x9 1))
  else
    some (.inr x8)
def sparseref01_shr (x1 : List Int) (x3 : Int) : Option ((List Int) × Bool) :=
  (loop (sparseref01_shr_l4 x3 x1) (false, 0)).bind fun x20 =>
  (loop (sparseref01_shr_l15 x1 x3) (x20, [], wqc .i64 x3 32)).bind fun (x63, x65) =>
  some (x65, x63)

def sparseref01_Neg (x1 : Bool) (x2 : List Int) : Option (Bool × (List Int)) :=
  (sparseref01_make1 (!(x1)) x2).bind fun r6 =>
  some (r6.1, r6.2)

def sparseref01_addMag_j7 (x18 : List Int) (x20 : Int) (x47 : Int) : Option (((List Int) × Int × Int) ⊕ (((List Int) × Int))) :=
  (app x18 [wc .u32 x47]).bind fun x50 =>
  some (.inl (x50, wsrc .u64 x47 32, wa .i64 x20 1))
def sparseref01_addMag_j6 (x20 : Int) (x3 : List Int) (x18 : List Int) (x45 : Int) : Option (((List Int) × Int × Int) ⊕ (((List Int) × Int))) :=
  if x20 < (x3.length : Int) then
    (getI x3 x20).bind fun x52 =>
    sparseref01_addMag_j7 x18 x20 (wa .u64 x45 (wc .u64 x52))
  else
    sparseref01_addMag_j7 x18 x20 x45
def sparseref01_addMag_l5 (x1 : List Int) (x3 : List Int) : (List Int) × Int × Int → Option (((List Int) × Int × Int) ⊕ (((List Int) × Int))) := fun (x18, x19, x20) =>
  if x20 < (imax (x1.length : Int) (x3.length : Int)) then
    if x20 < (x1.length : Int) then
      (getI x1 x20).bind fun x54 =>
      sparseref01_addMag_j6 x20 x3 x18 (wa .u64 x19 (wc .u64 x54))
    else
      sparseref01_addMag_j6 x20 x3 x18 x19
  else
    some (.inr (x18, x19))
def sparseref01_addMag (x1 : List Int) (x3 : List Int) : Option ((List Int)) :=
  (loop (sparseref01_addMag_l5 x1 x3) ([], 0, 0)).bind fun (x38, x39) =>
  (app x38 [wc .u32 x39]).bind fun x42 =>
  some x42

def sparseref01_cmpMag_l1 (x1 : List Int) (x3 : List Int) : Int → Option ((Int) ⊕ (Unit ⊕ Int)) := fun x13 =>
  if (0 : Int) ≤ x13 then
    (getI x1 x13).bind fun x24 =>
    (getI x3 x13).bind fun x25 =>
    if x24 = x25 then
      some (.inl (ws .i64 x13 1))
    else
      (getI x1 x13).bind fun x27 =>
      (getI x3 x13).bind fun x28 =>
      if x27 < x28 then
        some (.inr (.inr (-1)))
      else
        some (.inr (.inr 1))
  else
    some (.inr (.inl ()))
def sparseref01_cmpMag (x1 : List Int) (x3 : List Int) : Option (Int) :=
  if (x1.length : Int) = (x3.length : Int) then
    (loop (sparseref01_cmpMag_l1 x1 x3) (ws .i64 (x1.length : Int) 1)).bind (fun o => match o with
      | .inl () =>
        some 0
      | .inr x22 =>
        some x22)
  else
    if (x1.length : Int) < (x3.length : Int) then
      some (-1)
    else
      some 1

def sparseref01_subMag_j4 (x15 : List Int) (x17 : Int) (x36 : Int) : Option (((List Int) × Int × Int) ⊕ (((List Int)))) :=
  (app x15 [wc .u32 x36]).bind fun x39 =>
  some (.inl (x39, wsrc .u64 x36 63, wa .i64 x17 1))
def sparseref01_subMag_l3 (x1 : List Int) (x3 : List Int) : (List Int) × Int × Int → Option (((List Int) × Int × Int) ⊕ (((List Int)))) := fun (x15, x16, x17) =>
  if x17 < (x1.length : Int) then
    (getI x1 x17).bind fun x34 =>
    if x17 < (x3.length : Int) then
      (getI x3 x17).bind fun x41 =>
      sparseref01_subMag_j4 x15 x17 (ws .u64 (ws .u64 (wc .u64 x34) x16) (wc .u64 x41))
    else
      sparseref01_subMag_j4 x15 x17 (ws .u64 (wc .u64 x34) x16)
  else
    some (.inr x15)
def sparseref01_subMag (x1 : List Int) (x3 : List Int) : Option ((List Int)) :=
  (loop (sparseref01_subMag_l3 x1 x3) ([], 0, 0)).bind fun x32 =>
  some x32

def sparseref01_Add (x1 : Bool) (x2 : List Int) (x4 : Bool) (x5 : List Int) : Option (Bool × (List Int)) :=
  (sparseref01_trim x2).bind fun r10 =>
  (sparseref01_trim x5).bind fun r12 =>
  if (x1 == x4) = true then
    (sparseref01_addMag r10 r12).bind fun r15 =>
    (sparseref01_make1 x1 r15).bind fun r17 =>
    some (r17.1, r17.2)
  else
    (sparseref01_cmpMag r10 r12).bind fun r19 =>
    if (0 : Int) ≤ r19 then
      (sparseref01_subMag r10 r12).bind fun r21 =>
      (sparseref01_make1 x1 r21).bind fun r23 =>
      some (r23.1, r23.2)
    else
      (sparseref01_subMag r12 r10).bind fun r25 =>
      (sparseref01_make1 x4 r25).bind fun r27 =>
      some (r27.1, r27.2)

def sparseref01_Sub (x1 : Bool) (x2 : List Int) (x4 : Bool) (x5 : List Int) : Option (Bool × (List Int)) :=
  (sparseref01_Neg x4 x5).bind fun r10 =>
  (sparseref01_Add x1 x2 r10.1 r10.2).bind fun r12 =>
  some (r12.1, r12.2)

def sparseref01_Shift_j2 (x25 : Bool) (x27 : List Int) : Option (Bool × (List Int)) :=
  some (x25, x27)
def sparseref01_Shift (x1 : Bool) (x2 : List Int) (x4 : Int) : Option (Bool × (List Int)) :=
  (sparseref01_Norm x1 x2).bind fun r7 =>
  if (0 : Int) ≤ x4 then
    (sparseref01_shl r7.2 x4).bind fun r10 =>
    (sparseref01_make1 r7.1 r10).bind fun r12 =>
    some (r12.1, r12.2)
  else
    (sparseref01_shr r7.2 (wneg .i64 x4)).bind fun r14 =>
    (sparseref01_make1 r7.1 r14.1).bind fun r16 =>
    if (r7.1 && r14.2) = true then
      (sparseref01_FromInt 1).bind fun r29 =>
      (sparseref01_Sub r16.1 r16.2 r29.1 r29.2).bind fun r31 =>
      sparseref01_Shift_j2 r31.1 r31.2
    else
      sparseref01_Shift_j2 r16.1 r16.2

def sparseref02_down_l1 : Int × Bool × (List Int) → Option ((Int × Bool × (List Int)) ⊕ ((Int × Bool × (List Int)))) := fun (x10, x11, x13) =>
  if (1048576 : Int) < x10 then
    (sparseref01_Shift x11 x13 (-1048576)).bind fun r28 =>
    some (.inl (ws .i64 x10 1048576, r28.1, r28.2))
  else
    some (.inr (x10, x11, x13))
def sparseref02_down (x1 : Bool) (x2 : List Int) (x4 : Int) : Option (Bool × (List Int)) :=
  (loop (sparseref02_down_l1) (x4, x1, x2)).bind fun (x21, x22, x24) =>
  (sparseref01_Shift x22 x24 (wneg .i64 x21)).bind fun r25 =>
  some (r25.1, r25.2)

def math_bits_Len32_j2 (x4 : Int) (x5 : Int) : Option (Int) :=
  (getI [0, 1, 2, 2, 3, 3, 3, 3, 4, 4, 4, 4, 4, 4, 4, 4, 5, 5, 5, 5, 5, 5, 5, 5, 5, 5, 5, 5, 5, 5, 5, 5, 6, 6, 6, 6, 6, 6, 6, 6, 6, 6, 6, 6, 6, 6, 6, 6, 6, 6, 6, 6, 6, 6, 6, 6, 6, 6, 6, 6, 6, 6, 6, 6, 7, 7, 7, 7, 7, 7, 7, 7, 7, 7, 7, 7, 7, 7, 7, 7, 7, 7, 7, 7, 7, 7, 7, 7, 7, 7, 7, 7, 7, 7, 7, 7, 7, 7, 7, 7, 7, 7, 7, 7, 7, 7, 7, 7, 7, 7, 7, 7, 7, 7, 7, 7, 7, 7, 7, 7, 7, 7, 7, 7, 7, 7, 7, 7, 8, 8, 8, 8, 8, 8, 8, 8, 8, 8, 8, 8, 8, 8, 8, 8, 8, 8, 8, 8, 8, 8, 8, 8, 8, 8, 8, 8, 8, 8, 8, 8, 8, 8, 8, 8, 8, 8, 8, 8, 8, 8, 8, 8, 8, 8, 8, 8, 8, 8, 8, 8, 8, 8, 8, 8, 8, 8, 8, 8, 8, 8, 8, 8, 8, 8, 8, 8, 8, 8, 8, 8, 8, 8, 8, 8, 8, 8, 8, 8, 8, 8, 8, 8, 8, 8, 8, 8, 8, 8, 8, 8, 8, 8, 8, 8, 8, 8, 8, 8, 8, 8, 8, 8, 8, 8, 8, 8, 8, 8, 8, 8, 8, 8, 8, 8, 8, 8, 8, 8, 8, 8, 8, 8, 8, 8, 8, 8] (wc .u8 x4)).bind fun x6 =>
  some (wa .i64 x5 (wc .i64 x6))
def math_bits_Len32_j1 (x2 : Int) (x3 : Int) : Option (Int) :=
  if (256 : Int) ≤ x2 then
    math_bits_Len32_j2 (wsrc .u32 x2 8) (wa .i64 x3 8)
  else
    math_bits_Len32_j2 x2 x3
def math_bits_Len32 (x1 : Int) : Option (Int) :=
  if (65536 : Int) ≤ x1 then
    math_bits_Len32_j1 (wsrc .u32 x1 16) 16
  else
    math_bits_Len32_j1 x1 0
end M
