/- Models of functions of the program, printed. -/
import Derived.Test.YtoelidgkfpmgnaaDoorM1
namespace M
open Sx
set_option linter.unusedVariables false
def sparseref01_cmpMag_l1 (x1 : List Int) (x3 : List Int) : Int → Option ((Int) ⊕ (Unit ⊕ Int)) := fun x13 =>
  if (0 : Int) ≤ x13 then
    (getI x1 x13).bind fun x24 =>
    (getI x3 x13).bind fun x25 =>
    if x24 = x25 then
      some (.inl (ws .i64 x13 1))
    else
      (getI x1 x13).bind fun x27 =>
      (getI x3 x13).bind fun x28 =>
      if x27 < x28 then
        some (.inr (.inr (-1)))
      else
        some (.inr (.inr 1))
  else
    some (.inr (.inl ()))
def sparseref01_cmpMag (x1 : List Int) (x3 : List Int) : Option (Int) :=
  if (x1.length : Int) = (x3.length : Int) then
    (loop (sparseref01_cmpMag_l1 x1 x3) (ws .i64 (x1.length : Int) 1)).bind (fun o => match o with
      | .inl () =>
        some 0
      | .inr x22 =>
        some x22)
  else
    if (x1.length : Int) < (x3.length : Int) then
      some (-1)
    else
      some 1

def sparseref01_subMag_j4 (x15 : List Int) (x17 : Int) (x36 : Int) : Option (((List Int) × Int × Int) ⊕ (((List Int)))) :=
  (app x15 [wc .u32 x36]).bind fun x39 =>
  some (.inl (x39, wsrc .u64 x36 63, wa .i64 x17 1))
def sparseref01_subMag_l3 (x1 : List Int) (x3 : List Int) : (List Int) × Int × Int → Option (((List Int) × Int × Int) ⊕ (((List Int)))) := fun (x15, x16, x17) =>
  if x17 < (x1.length : Int) then
    (getI x1 x17).bind fun x34 =>
    if x17 < (x3.length : Int) then
      (getI x3 x17).bind fun x41 =>
      sparseref01_subMag_j4 x15 x17 (ws .u64 (ws .u64 (wc .u64 x34) x16) (wc .u64 x41))
    else
      sparseref01_subMag_j4 x15 x17 (ws .u64 (wc .u64 x34) x16)
  else
    some (.inr x15)
def sparseref01_subMag (x1 : List Int) (x3 : List Int) : Option ((List Int)) :=
  (loop (sparseref01_subMag_l3 x1 x3) ([], 0, 0)).bind fun x32 =>
  some x32

def sparseref01_Add (x1 : Bool) (x2 : List Int) (x4 : Bool) (x5 : List Int) : Option (Bool × (List Int)) :=
  (sparseref01_trim x2).bind fun r10 =>
  (sparseref01_trim x5).bind fun r12 =>
  if (x1 == x4) = true then
    (sparseref01_addMag r10 r12).bind fun r15 =>
    (sparseref01_make1 x1 r15).bind fun r17 =>
    some (r17.1, r17.2)
  else
    (sparseref01_cmpMag r10 r12).bind fun r19 =>
    if (0 : Int) ≤ r19 then
      (sparseref01_subMag r10 r12).bind fun r21 =>
      (sparseref01_make1 x1 r21).bind fun r23 =>
      some (r23.1, r23.2)
    else
      (sparseref01_subMag r12 r10).bind fun r25 =>
      (sparseref01_make1 x4 r25).bind fun r27 =>
      some (r27.1, r27.2)

def sparseref01_Sub (x1 : Bool) (x2 : List Int) (x4 : Bool) (x5 : List Int) : Option (Bool × (List Int)) :=
  (sparseref01_Neg x4 x5).bind fun r10 =>
  (sparseref01_Add x1 x2 r10.1 r10.2).bind fun r12 =>
  some (r12.1, r12.2)

def sparseref01_Shift_j2 (x25 : Bool) (x27 : List Int) : Option (Bool × (List Int)) :=
  some (x25, x27)
def sparseref01_Shift (x1 : Bool) (x2 : List Int) (x4 : Int) : Option (Bool × (List Int)) :=
  (sparseref01_Norm x1 x2).bind fun r7 =>
  if (0 : Int) ≤ x4 then
    (sparseref01_shl r7.2 x4).bind fun r10 =>
    (sparseref01_make1 r7.1 r10).bind fun r12 =>
    some (r12.1, r12.2)
  else
    (sparseref01_shr r7.2 (wneg .i64 x4)).bind fun r14 =>
    (sparseref01_make1 r7.1 r14.1).bind fun r16 =>
    if (r7.1 && r14.2) = true then
      (sparseref01_FromInt 1).bind fun r29 =>
      (sparseref01_Sub r16.1 r16.2 r29.1 r29.2).bind fun r31 =>
      sparseref01_Shift_j2 r31.1 r31.2
    else
      sparseref01_Shift_j2 r16.1 r16.2

def sparseref02_down_l1 : Int × Bool × (List Int) → Option ((Int × Bool × (List Int)) ⊕ ((Int × Bool × (List Int)))) := fun (x10, x11, x13) =>
  if (1048576 : Int) < x10 then
    (sparseref01_Shift x11 x13 (-1048576)).bind fun r28 =>
    some (.inl (ws .i64 x10 1048576, r28.1, r28.2))
  else
    some (.inr (x10, x11, x13))
def sparseref02_down (x1 : Bool) (x2 : List Int) (x4 : Int) : Option (Bool × (List Int)) :=
  (loop (sparseref02_down_l1) (x4, x1, x2)).bind fun (x21, x22, x24) =>
  (sparseref01_Shift x22 x24 (wneg .i64 x21)).bind fun r25 =>
  some (r25.1, r25.2)

def math_bits_Len32_j2 (x4 : Int) (x5 : Int) : Option (Int) :=
  (getI [0, 1, 2, 2, 3, 3, 3, 3, 4, 4, 4, 4, 4, 4, 4, 4, 5, 5, 5, 5, 5, 5, 5, 5, 5, 5, 5, 5, 5, 5, 5, 5, 6, 6, 6, 6, 6, 6, 6, 6, 6, 6, 6, 6, 6, 6, 6, 6, 6, 6, 6, 6, 6, 6, 6, 6, 6, 6, 6, 6, 6, 6, 6, 6, 7, 7, 7, 7, 7, 7, 7, 7, 7, 7, 7, 7, 7, 7, 7, 7, 7, 7, 7, 7, 7, 7, 7, 7, 7, 7, 7, 7, 7, 7, 7, 7, 7, 7, 7, 7, 7, 7, 7, 7, 7, 7, 7, 7, 7, 7, 7, 7, 7, 7, 7, 7, 7, 7, 7, 7, 7, 7, 7, 7, 7, 7, 7, 7, 8, 8, 8, 8, 8, 8, 8, 8, 8, 8, 8, 8, 8, 8, 8, 8, 8, 8, 8, 8, 8, 8, 8, 8, 8, 8, 8, 8, 8, 8, 8, 8, 8, 8, 8, 8, 8, 8, 8, 8, 8, 8, 8, 8, 8, 8, 8, 8, 8, 8, 8, 8, 8, 8, 8, 8, 8, 8, 8, 8, 8, 8, 8, 8, 8, 8, 8, 8, 8, 8, 8, 8, 8, 8, 8, 8, 8, 8, 8, 8, 8, 8, 8, 8, 8, 8, 8, 8, 8, 8, 8, 8, 8, 8, 8, 8, 8, 8, 8, 8, 8, 8, 8, 8, 8, 8, 8, 8, 8, 8, 8, 8, 8, 8, 8, 8, 8, 8, 8, 8, 8, 8, 8, 8, 8, 8, 8, 8] (wc .u8 x4)).bind fun x6 =>
  some (wa .i64 x5 (wc .i64 x6))
def math_bits_Len32_j1 (x2 : Int) (x3 : Int) : Option (Int) :=
  if (256 : Int) ≤ x2 then
    math_bits_Len32_j2 (wsrc .u32 x2 8) (wa .i64 x3 8)
  else
    math_bits_Len32_j2 x2 x3
def math_bits_Len32 (x1 : Int) : Option (Int) :=
  if (65536 : Int) ≤ x1 then
    math_bits_Len32_j1 (wsrc .u32 x1 16) 16
  else
    math_bits_Len32_j1 x1 0

def sparseref01_BitLen (x1 : Bool) (x2 : List Int) : Option (Int) :=
  (sparseref01_trim x2).bind fun r5 =>
  if (r5.length : Int) = 0 then
    some 0
  else
    (getI r5 (ws .i64 (r5.length : Int) 1)).bind fun x8 =>
    (math_bits_Len32 x8).bind fun r9 =>
    some (wa .i64 (wm .i64 32 (ws .i64 (r5.length : Int) 1)) r9)

def sparseref02_Make (x1 : Bool) (x2 : List Int) (x4 : Int) : Option (Bool × Bool × (List Int) × Int) :=
  (sparseref01_Norm x1 x2).bind fun r7 =>
  if (r7.2.length : Int) = 0 then
    some (false, false, [], 0)
  else
    if (65536 : Int) < x4 then
      (sparseref02_Bad).bind fun r12 =>
      some (r12.1, r12.2.1, [], r12.2.2)
    else
      (sparseref01_TrailingZeros r7.1 r7.2).bind fun r13 =>
      (sparseref01_Abs r7.1 r7.2).bind fun r14 =>
      (sparseref02_down r14.1 r14.2 r13).bind fun r16 =>
      (if (wa .i64 x4 r13) < (-65536) then
        some true
      else
        (sparseref01_BitLen r16.1 r16.2).bind fun r22 =>
        some (decide ((65536 : Int) < (wa .i64 (wa .i64 x4 r13) r22)))).bind fun r19 =>
      if r19 = true then
        (sparseref02_Bad).bind fun r24 =>
        some (r24.1, r24.2.1, [], r24.2.2)
      else
        some (false, x1, r16.2, wa .i64 x4 r13)

def sparseref02_FromInt (x1 : Int) : Option (Bool × Bool × (List Int) × Int) :=
  (sparseref01_FromInt x1).bind fun r3 =>
  (sparseref02_Make r3.1 r3.2 0).bind fun r5 =>
  some (r5.1, r5.2.1, r5.2.2.1, r5.2.2.2)

def sparseref02_Norm (x1 : Bool) (x2 : Bool) (x3 : List Int) (x5 : Int) : Option (Bool × Bool × (List Int) × Int) :=
  if x1 = true then
    (sparseref02_Bad).bind fun r9 =>
    some (r9.1, r9.2.1, [], r9.2.2)
  else
    (sparseref02_Make x2 x3 x5).bind fun r10 =>
    some (r10.1, r10.2.1, r10.2.2.1, r10.2.2.2)

def sparseref01_Sign (x1 : Bool) (x2 : List Int) : Option (Int) :=
  (sparseref01_Norm x1 x2).bind fun r5 =>
  if (r5.2.length : Int) = 0 then
    some 0
  else
    if r5.1 = true then
      some (-1)
    else
      some 1

def sparseref02_Scale (x1 : Bool) (x2 : Bool) (x3 : List Int) (x5 : Int) (x6 : Int) : Option (Bool × Bool × (List Int) × Int) :=
  (sparseref02_Norm x1 x2 x3 x5).bind fun r9 =>
  (if r9.1 = true then
    some true
  else
    (sparseref01_Sign r9.2.1 r9.2.2.1).bind fun r15 =>
    some (decide (r15 = 0))).bind fun r12 =>
  if r12 = true then
    some (r9.1, r9.2.1, r9.2.2.1, r9.2.2.2)
  else
    if ((decide ((262144 : Int) < x6)) || (decide (x6 < (-262144)))) = true then
      (sparseref02_Bad).bind fun r20 =>
      some (r20.1, r20.2.1, [], r20.2.2)
    else
      (sparseref02_Make r9.2.1 r9.2.2.1 (wa .i64 r9.2.2.2 x6)).bind fun r21 =>
      some (r21.1, r21.2.1, r21.2.2.1, r21.2.2.2)

def sparseref03_signed (x1 : Bool) (x2 : Int) : Option (Int) :=
  if x1 = true then
    some (wor .u64 x2 9223372036854775808)
  else
    some x2
end M
