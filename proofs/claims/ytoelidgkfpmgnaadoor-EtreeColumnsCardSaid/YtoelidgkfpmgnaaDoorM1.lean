/- Models of functions of the program, printed. -/
import Derived.Test.YtoelidgkfpmgnaaDoorM0
namespace M
open Sx
set_option linter.unusedVariables false
def sparsekit_Ints_l1 (x1 : List Int) (x3 : List Int) : Int → Option ((Int) ⊕ (Unit ⊕ Unit)) := fun x10 =>
  if x10 < (x1.length : Int) then
    (getI x1 x10).bind fun x17 =>
    (getI x3 x10).bind fun x18 =>
    if x17 = x18 then
      some (.inl (wa .i64 x10 1))
    else
      some (.inr (.inr ()))
  else
    some (.inr (.inl ()))
def sparsekit_Ints (x1 : List Int) (x3 : List Int) : Option (Bool) :=
  if (x1.length : Int) = (x3.length : Int) then
    (loop (sparsekit_Ints_l1 x1 x3) 0).bind (fun o => match o with
      | .inl () =>
        some true
      | .inr () =>
        some false)
  else
    some false

def sparselaw19_awake : Option (Bool) :=
  (etree_Parent [[2, 3], [2], [0, 1, 3], [0, 2]]).bind fun r7 =>
  (etree_Postorder [2, (-1), (-1)]).bind fun r10 =>
  (if ((decide (r7.2 = 0)) && (decide (r10.2 = 0))) = true then
    (sparsekit_Ints r7.1 [2, 2, 3, (-1)]).bind fun r20 =>
    some r20
  else
    some false).bind fun r16 =>
  (if r16 = true then
    (sparsekit_Ints r10.1 [1, 0, 2]).bind fun r27 =>
    some r27
  else
    some false).bind fun r23 =>
  (if r23 = true then
    (etree_Check r7.1).bind fun r32 =>
    some (decide (r32 = 0))
  else
    some false).bind fun r29 =>
  some r29

def sparsekit_Place (x1 : Int) (x2 : Int) : Option (Int) :=
  (wr (wc .u64 x1) (wc .u64 x2)).bind fun x3 =>
  some (wc .i64 x3)

def sparseref01_trim_l4 (x17 : Int) (x1 : List Int) : (List Int) × Int → Option (((List Int) × Int) ⊕ (((List Int)))) := fun (x24, x25) =>
  if x25 < x17 then
    (getI x1 x25).bind fun x37 =>
    (app x24 [x37]).bind fun x40 =>
    some (.inl (x40, wa .i64 x25 1))
  else
    some (.inr x24)
def sparseref01_trim_l3 (x1 : List Int) : Int → Option ((Int) ⊕ (Int)) := fun x9 =>
  (if (0 : Int) < x9 then
    (getI x1 (ws .i64 x9 1)).bind fun x45 =>
    some (decide (x45 = 0))
  else
    some false).bind fun r42 =>
  if r42 = true then
    some (.inl (ws .i64 x9 1))
  else
    some (.inr x9)
def sparseref01_trim (x1 : List Int) : Option ((List Int)) :=
  (loop (sparseref01_trim_l3 x1) (x1.length : Int)).bind fun x17 =>
  (loop (sparseref01_trim_l4 x17 x1) ([], 0)).bind fun x35 =>
  some x35

def sparseref01_make1 (x1 : Bool) (x2 : List Int) : Option (Bool × (List Int)) :=
  (sparseref01_trim x2).bind fun r5 =>
  some ((x1 && (decide ((0 : Int) < (r5.length : Int)))), r5)

def sparseref01_FromInt_j1 (x1 : Int) (x3 : Int) : Option (Bool × (List Int)) :=
  (sparseref01_make1 (decide (x1 < 0)) [wc .u32 x3, wc .u32 (wsrc .u64 x3 32)]).bind fun r5 =>
  some (r5.1, r5.2)
def sparseref01_FromInt (x1 : Int) : Option (Bool × (List Int)) :=
  if x1 < 0 then
    sparseref01_FromInt_j1 x1 (wa .u64 (wc .u64 (wneg .i64 (wa .i64 x1 1))) 1)
  else
    sparseref01_FromInt_j1 x1 (wc .u64 x1)

def sparseref01_Norm (x1 : Bool) (x2 : List Int) : Option (Bool × (List Int)) :=
  (sparseref01_make1 x1 x2).bind fun r6 =>
  some (r6.1, r6.2)

def sparseref02_Bad : Option (Bool × Bool × Int) :=
  some (true, false, 0)

def sparseref01_TrailingZeros_l1 (r5 : (List Int)) : Int → Option ((Int) ⊕ (Unit ⊕ Int)) := fun x12 =>
  if x12 < (r5.length : Int) then
    (getI r5 x12).bind fun x21 =>
    if x21 = 0 then
      some (.inl (wa .i64 x12 1))
    else
      (getI r5 x12).bind fun x23 =>
      (tz32 x23).bind fun r24 =>
      some (.inr (.inr (wa .i64 (wm .i64 32 x12) r24)))
  else
    some (.inr (.inl ()))
def sparseref01_TrailingZeros (x1 : Bool) (x2 : List Int) : Option (Int) :=
  (sparseref01_trim x2).bind fun r5 =>
  (loop (sparseref01_TrailingZeros_l1 r5) 0).bind (fun o => match o with
    | .inl () =>
      some 0
    | .inr x19 =>
      some x19)

def sparseref01_Abs (x1 : Bool) (x2 : List Int) : Option (Bool × (List Int)) :=
  (sparseref01_make1 false x2).bind fun r6 =>
  some (r6.1, r6.2)

def sparseref01_shl_l1 (x1 : List Int) (x3 : Int) : (List Int) × Int × Int → Option (((List Int) × Int × Int) ⊕ (((List Int) × Int))) := fun (x14, x15, x16) =>
  if x16 < (x1.length : Int) then
    (getI x1 x16).bind fun x34 =>
    (wshl .u64 (wc .u64 x34) (wrc x3 32)).bind fun x35 =>
    (app x14 [wc .u32 (wor .u64 x15 x35)]).bind fun x38 =>
    some (.inl (x38, wsrc .u64 (wor .u64 x15 x35) 32, wa .i64 x16 1))
  else
    some (.inr (x14, x15))
def sparseref01_shl (x1 : List Int) (x3 : Int) : Option ((List Int)) :=
  (mkL 0 (wqc .i64 x3 32)).bind fun x6 =>
  (loop (sparseref01_shl_l1 x1 x3) (x6, 0, 0)).bind fun (x28, x29) =>
  (app x28 [wc .u32 x29]).bind fun x32 =>
  some x32

def sparseref01_shr_j20 (x69 : Int) (x3 : Int) (x40 : List Int) (x41 : Int) (x75 : Bool) : Option ((Bool × (List Int) × Int) ⊕ ((Bool × (List Int)))) :=
  (wshr .u64 x69 (wrc x3 32)).bind fun x76 =>
  (app x40 [wc .u32 x76]).bind fun x79 =>
  some (.inl (x75, x79, wa .i64 x41 1))
def sparseref01_shr_j16 (x41 : Int) (x3 : Int) (x1 : List Int) (x40 : List Int) (x38 : Bool) (x69 : Int) : Option ((Bool × (List Int) × Int) ⊕ ((Bool × (List Int)))) :=
  (if x41 = (wqc .i64 x3 32) then
    (getI x1 x41).bind fun x73 =>
    (wshl .u32 1 (wrc x3 32)).bind fun x74 =>
    some (!(decide ((wand .u32 x73 (ws .u32 x74 1)) = 0)))
  else
    some false).bind fun r70 =>
  if r70 = true then
    sparseref01_shr_j20 x69 x3 x40 x41 true
  else
    sparseref01_shr_j20 x69 x3 x40 x41 x38
def sparseref01_shr_l15 (x1 : List Int) (x3 : Int) : Bool × (List Int) × Int → Option ((Bool × (List Int) × Int) ⊕ ((Bool × (List Int)))) := fun (x38, x40, x41) =>
  if x41 < (x1.length : Int) then
    (getI x1 x41).bind fun x67 =>
    if (wa .i64 x41 1) < (x1.length : Int) then
      (getI x1 (wa .i64 x41 1)).bind fun x82 =>
      sparseref01_shr_j16 x41 x3 x1 x40 x38 (wor .u64 (wc .u64 x67) (wslc .u64 (wc .u64 x82) 32))
    else
      sparseref01_shr_j16 x41 x3 x1 x40 x38 (wc .u64 x67)
  else
    some (.inr (x38, x40))
def sparseref01_shr_l4 (x3 : Int) (x1 : List Int) : Bool × Int → Option ((Bool × Int) ⊕ (Bool)) := fun (x8, x9) =>
  if ((decide (x9 < (wqc .i64 x3 32))) && (decide (x9 < (x1.length : Int)))) = true then
    (if x8 = true then
      some true
    else
      (getI x1 x9).bind fun x90 =>
      some (!(decide (x90 = 0)))).bind fun r87 =>
    some (.inl (r87, wa .i64 x9 1))
  else
    some (.inr x8)
def sparseref01_shr (x1 : List Int) (x3 : Int) : Option ((List Int) × Bool) :=
  (loop (sparseref01_shr_l4 x3 x1) (false, 0)).bind fun x20 =>
  (loop (sparseref01_shr_l15 x1 x3) (x20, [], wqc .i64 x3 32)).bind fun (x63, x65) =>
  some (x65, x63)

def sparseref01_Neg (x1 : Bool) (x2 : List Int) : Option (Bool × (List Int)) :=
  (sparseref01_make1 (!(x1)) x2).bind fun r6 =>
  some (r6.1, r6.2)

def sparseref01_addMag_j7 (x18 : List Int) (x20 : Int) (x47 : Int) : Option (((List Int) × Int × Int) ⊕ (((List Int) × Int))) :=
  (app x18 [wc .u32 x47]).bind fun x50 =>
  some (.inl (x50, wsrc .u64 x47 32, wa .i64 x20 1))
def sparseref01_addMag_j6 (x20 : Int) (x3 : List Int) (x18 : List Int) (x45 : Int) : Option (((List Int) × Int × Int) ⊕ (((List Int) × Int))) :=
  if x20 < (x3.length : Int) then
    (getI x3 x20).bind fun x52 =>
    sparseref01_addMag_j7 x18 x20 (wa .u64 x45 (wc .u64 x52))
  else
    sparseref01_addMag_j7 x18 x20 x45
def sparseref01_addMag_l5 (x1 : List Int) (x3 : List Int) : (List Int) × Int × Int → Option (((List Int) × Int × Int) ⊕ (((List Int) × Int))) := fun (x18, x19, x20) =>
  if x20 < (imax (x1.length : Int) (x3.length : Int)) then
    if x20 < (x1.length : Int) then
      (getI x1 x20).bind fun x54 =>
      sparseref01_addMag_j6 x20 x3 x18 (wa .u64 x19 (wc .u64 x54))
    else
      sparseref01_addMag_j6 x20 x3 x18 x19
  else
    some (.inr (x18, x19))
def sparseref01_addMag (x1 : List Int) (x3 : List Int) : Option ((List Int)) :=
  (loop (sparseref01_addMag_l5 x1 x3) ([], 0, 0)).bind fun (x38, x39) =>
  (app x38 [wc .u32 x39]).bind fun x42 =>
  some x42
end M
