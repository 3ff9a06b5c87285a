/- Models of functions of the program, printed. -/
import Derived.Test.YtcknmegldjnjjaaGreatDoorM2
namespace M
open Sx
set_option linter.unusedVariables false
def sparseref01_BitLen (x1 : Bool) (x2 : List Int) : Option (Int) :=
  (sparseref01_trim x2).bind fun r5 =>
  if (r5.length : Int) = 0 then
    some 0
  else
    (getI r5 (ws .i64 (r5.length : Int) 1)).bind fun x8 =>
    (math_bits_Len32 x8).bind fun r9 =>
    some (wa .i64 (wm .i64 32 (ws .i64 (r5.length : Int) 1)) r9)

def sparseref02_Make (x1 : Bool) (x2 : List Int) (x4 : Int) : Option (Bool × Bool × (List Int) × Int) :=
  (sparseref01_Norm x1 x2).bind fun r7 =>
  if (r7.2.length : Int) = 0 then
    some (false, false, [], 0)
  else
    if (65536 : Int) < x4 then
      (sparseref02_Bad).bind fun r12 =>
      some (r12.1, r12.2.1, [], r12.2.2)
    else
      (sparseref01_TrailingZeros r7.1 r7.2).bind fun r13 =>
      (sparseref01_Abs r7.1 r7.2).bind fun r14 =>
      (sparseref02_down r14.1 r14.2 r13).bind fun r16 =>
      (if (wa .i64 x4 r13) < (-65536) then
        some true
      else
        (sparseref01_BitLen r16.1 r16.2).bind fun r22 =>
        some (decide ((65536 : Int) < (wa .i64 (wa .i64 x4 r13) r22)))).bind fun r19 =>
      if r19 = true then
        (sparseref02_Bad).bind fun r24 =>
        some (r24.1, r24.2.1, [], r24.2.2)
      else
        some (false, x1, r16.2, wa .i64 x4 r13)

def sparseref02_FromInt (x1 : Int) : Option (Bool × Bool × (List Int) × Int) :=
  (sparseref01_FromInt x1).bind fun r3 =>
  (sparseref02_Make r3.1 r3.2 0).bind fun r5 =>
  some (r5.1, r5.2.1, r5.2.2.1, r5.2.2.2)

def sparseref02_Norm (x1 : Bool) (x2 : Bool) (x3 : List Int) (x5 : Int) : Option (Bool × Bool × (List Int) × Int) :=
  if x1 = true then
    (sparseref02_Bad).bind fun r9 =>
    some (r9.1, r9.2.1, [], r9.2.2)
  else
    (sparseref02_Make x2 x3 x5).bind fun r10 =>
    some (r10.1, r10.2.1, r10.2.2.1, r10.2.2.2)

def sparseref01_Sign (x1 : Bool) (x2 : List Int) : Option (Int) :=
  (sparseref01_Norm x1 x2).bind fun r5 =>
  if (r5.2.length : Int) = 0 then
    some 0
  else
    if r5.1 = true then
      some (-1)
    else
      some 1

def sparseref02_Scale (x1 : Bool) (x2 : Bool) (x3 : List Int) (x5 : Int) (x6 : Int) : Option (Bool × Bool × (List Int) × Int) :=
  (sparseref02_Norm x1 x2 x3 x5).bind fun r9 =>
  (if r9.1 = true then
    some true
  else
    (sparseref01_Sign r9.2.1 r9.2.2.1).bind fun r15 =>
    some (decide (r15 = 0))).bind fun r12 =>
  if r12 = true then
    some (r9.1, r9.2.1, r9.2.2.1, r9.2.2.2)
  else
    if ((decide ((262144 : Int) < x6)) || (decide (x6 < (-262144)))) = true then
      (sparseref02_Bad).bind fun r20 =>
      some (r20.1, r20.2.1, [], r20.2.2)
    else
      (sparseref02_Make r9.2.1 r9.2.2.1 (wa .i64 r9.2.2.2 x6)).bind fun r21 =>
      some (r21.1, r21.2.1, r21.2.2.1, r21.2.2.2)

def sparseref03_signed (x1 : Bool) (x2 : Int) : Option (Int) :=
  if x1 = true then
    some (wor .u64 x2 9223372036854775808)
  else
    some x2

def sparseref03_over (x1 : Bool) (x2 : Int) : Option (Int) :=
  if (((decide (x2 = 3)) || ((decide (x2 = 1)) && (!(x1)))) || ((decide (x2 = 2)) && x1)) = true then
    (sparseref03_signed x1 9218868437227405311).bind fun r16 =>
    some r16
  else
    (sparseref03_signed x1 9218868437227405312).bind fun r17 =>
    some r17

def sparseref01_Lost (x1 : Bool) (x2 : List Int) (x4 : Int) : Option (Bool) :=
  (sparseref01_trim x2).bind fun r6 =>
  (sparseref01_shr r6 x4).bind fun r8 =>
  some r8.2

def sparseref02_Up (x1 : Bool) (x2 : Int) (x3 : Bool) (x4 : Int) : Option (Bool) :=
  if x4 = 1 then
    some x1
  else
    if x4 = 2 then
      some (!(x1))
    else
      if x4 = 3 then
        some false
      else
        some ((decide ((0 : Int) < x2)) || ((decide (x2 = 0)) && x3))

def sparseref02_Cut_j10 (x54 : Bool) (x56 : List Int) : Option (Bool × (List Int)) :=
  some (x54, x56)
def sparseref02_Cut_j8 (r10 : Bool × (List Int)) (x1 : Bool) (x7 : Int) (x42 : Int) : Option (Bool × (List Int)) :=
  (sparseref01_Sign r10.1 r10.2).bind fun r43 =>
  (if r43 = 0 then
    some false
  else
    (sparseref01_TrailingZeros r10.1 r10.2).bind fun r48 =>
    some (decide (r48 = 0))).bind fun r45 =>
  (sparseref02_Up x1 x42 r45 x7).bind fun r49 =>
  if r49 = true then
    (sparseref01_FromInt 1).bind fun r58 =>
    (sparseref01_Add r10.1 r10.2 r58.1 r58.2).bind fun r60 =>
    sparseref02_Cut_j10 r60.1 r60.2
  else
    sparseref02_Cut_j10 r10.1 r10.2
def sparseref02_Cut_j14 (r10 : Bool × (List Int)) (x1 : Bool) (x7 : Int) (x79 : Int) : Option (Bool × (List Int)) :=
  sparseref02_Cut_j8 r10 x1 x7 x79
def sparseref02_Cut_j16 (r10 : Bool × (List Int)) (x1 : Bool) (x7 : Int) (x86 : Int) : Option (Bool × (List Int)) :=
  sparseref02_Cut_j14 r10 x1 x7 x86
def sparseref02_Cut (x1 : Bool) (x2 : Bool) (x3 : List Int) (x5 : Int) (x6 : Bool) (x7 : Int) : Option (Bool × (List Int)) :=
  (sparseref02_down x2 x3 x5).bind fun r10 =>
  (sparseref01_Lost x2 x3 x5).bind fun r13 =>
  if ((!(r13)) && (!(x6))) = true then
    some (r10.1, r10.2)
  else
    if (0 : Int) < x5 then
      (sparseref02_down x2 x3 (ws .i64 x5 1)).bind fun r63 =>
      (sparseref01_TrailingZeros r63.1 r63.2).bind fun r66 =>
      (if r66 = 0 then
        (sparseref01_Sign r63.1 r63.2).bind fun r71 =>
        some (!(decide (r71 = 0)))
      else
        some false).bind fun r68 =>
      if r68 = true then
        (if x6 = true then
          some true
        else
          (sparseref01_Lost x2 x3 (ws .i64 x5 1)).bind fun r85 =>
          some r85).bind fun r82 =>
        if r82 = true then
          sparseref02_Cut_j16 r10 x1 x7 1
        else
          sparseref02_Cut_j16 r10 x1 x7 0
      else
        sparseref02_Cut_j14 r10 x1 x7 (-1)
    else
      sparseref02_Cut_j8 r10 x1 x7 (-1)

def sparseref01_Int_l1 (r5 : Bool × (List Int)) : Int × Int → Option ((Int × Int) ⊕ (Int)) := fun (x11, x12) =>
  if x12 < (r5.2.length : Int) then
    (getI r5.2 x12).bind fun x23 =>
    (wshl .u64 (wc .u64 x23) (wm .i64 32 x12)).bind fun x24 =>
    some (.inl (wor .u64 x11 x24, wa .i64 x12 1))
  else
    some (.inr x11)
def sparseref01_Int (x1 : Bool) (x2 : List Int) : Option (Int × Bool) :=
  (sparseref01_Norm x1 x2).bind fun r5 =>
  if (2 : Int) < (r5.2.length : Int) then
    some (0, false)
  else
    (loop (sparseref01_Int_l1 r5) (0, 0)).bind fun x18 =>
    if r5.1 = true then
      if (9223372036854775808 : Int) < x18 then
        some (0, false)
      else
        some (ws .i64 (wneg .i64 (wc .i64 (ws .u64 x18 1))) 1, true)
    else
      if (9223372036854775807 : Int) < x18 then
        some (0, false)
      else
        some (wc .i64 x18, true)
end M
