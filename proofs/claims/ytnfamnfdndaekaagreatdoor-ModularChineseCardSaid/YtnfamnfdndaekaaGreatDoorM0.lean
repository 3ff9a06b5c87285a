/- Models of functions of the program, printed. -/
import Derived.Test.YtnfamnfdndaekaaGreatDoorTm
namespace M
open Sx
set_option linter.unusedVariables false
def sparsekit_Slim (c : Bool) (a : LI) (b : Int) : Option (Bool) :=
  some (decide ((a.length : Int) ≤ b))

def modular_IsPrime_l2 (b : Int) : Int → Option ((Int) ⊕ (Unit ⊕ Unit)) := fun a =>
  if (wm .i64 a a) ≤ b then
    (wr b a).bind fun c =>
    if c = 0 then
      some (.inr (.inr ()))
    else
      some (.inl (wa .i64 a 1))
  else
    some (.inr (.inl ()))
def modular_IsPrime (a : Int) : Option (Bool) :=
  if ((decide (a < 2)) || (decide ((2147483647 : Int) < a))) = true then
    some false
  else
    (loop (modular_IsPrime_l2 a) 2).bind (fun o => match o with
      | .inl () =>
        some true
      | .inr () =>
        some false)

def integer_trim_l3 (b : LI) : Int → Option ((Int) ⊕ (Int)) := fun a =>
  (if (0 : Int) < a then
    (getI b (ws .i64 a 1)).bind fun c =>
    some (decide (c = 0))
  else
    some false).bind fun d =>
  if d = true then
    some (.inl (ws .i64 a 1))
  else
    some (.inr a)
def integer_trim (a : LI) : Option (LI) :=
  (loop (integer_trim_l3 a) (a.length : Int)).bind fun b =>
  (sli a 0 b).bind fun c =>
  some c

def integer_big (b : Bool) (c : LI) : Option (Bool × LI) :=
  (integer_trim c).bind fun a =>
  if (a.length : Int) = 0 then
    some (false, [])
  else
    some (b, a)

def integer_FromInt_j1 (c : Int) (a : Int) : Option (Bool × LI) :=
  (integer_big (decide (c < 0)) [wc .u32 (wand .u64 a 4294967295), wc .u32 (wsrc .u64 a 32)]).bind fun b =>
  some (b.1, b.2)
def integer_FromInt (a : Int) : Option (Bool × LI) :=
  if a < 0 then
    integer_FromInt_j1 a (wneg .u64 (wc .u64 a))
  else
    integer_FromInt_j1 a (wc .u64 a)

def cmp_isNaN_uint32 (a : Int) : Option (Bool) :=
  some (!(decide (a = a)))

def cmp_Compare_uint32 (a : Int) (b : Int) : Option (Int) :=
  (cmp_isNaN_uint32 a).bind fun d =>
  (cmp_isNaN_uint32 b).bind fun c =>
  if d = true then
    if c = true then
      some 0
    else
      some (-1)
  else
    if c = true then
      some 1
    else
      if a < b then
        some (-1)
      else
        if b < a then
          some 1
        else
          some 0

def cmp_isNaN_int (a : Int) : Option (Bool) :=
  some (!(decide (a = a)))

def cmp_Compare_int (a : Int) (b : Int) : Option (Int) :=
  (cmp_isNaN_int a).bind fun d =>
  (cmp_isNaN_int b).bind fun c =>
  if d = true then
    if c = true then
      some 0
    else
      some (-1)
  else
    if c = true then
      some 1
    else
      if a < b then
        some (-1)
      else
        if b < a then
          some 1
        else
          some 0

def integer_compare_l1 (b : LI) (c : LI) : Int → Option ((Int) ⊕ (Unit ⊕ Int)) := fun a =>
  if (0 : Int) ≤ a then
    (getI b a).bind fun d =>
    (getI c a).bind fun e =>
    if d = e then
      some (.inl (ws .i64 a 1))
    else
      (getI b a).bind fun f =>
      (getI c a).bind fun g =>
      (cmp_Compare_uint32 f g).bind fun h =>
      some (.inr (.inr h))
  else
    some (.inr (.inl ()))
def integer_compare (a : LI) (b : LI) : Option (Int) :=
  if (a.length : Int) = (b.length : Int) then
    (loop (integer_compare_l1 a b) (ws .i64 (a.length : Int) 1)).bind (fun o => match o with
      | .inl () =>
        some 0
      | .inr c =>
        some c)
  else
    (cmp_Compare_int (a.length : Int) (b.length : Int)).bind fun d =>
    some d

def slices_Clone_uint32 (a : LI) : Option (LI) :=
  (app [] a).bind fun b =>
  some b

def integer_short_l1 (f : LI) (c : Int) : LI × Int × Int → Option ((LI × Int × Int) ⊕ ((LI × Int))) := fun (d, b, a) =>
  if (0 : Int) ≤ a then
    (getI f a).bind fun e =>
    (wq .u64 (wor .u64 (wslc .u64 b 32) (wc .u64 e)) (wc .u64 c)).bind fun g =>
    (setI d a (wc .u32 g)).bind fun h =>
    (wr (wor .u64 (wslc .u64 b 32) (wc .u64 e)) (wc .u64 c)).bind fun i =>
    some (.inl (h, i, ws .i64 a 1))
  else
    some (.inr (d, b))
def integer_short (a : LI) (b : Int) : Option (LI × Int) :=
  (mkL 0 (a.length : Int)).bind fun c =>
  (loop (integer_short_l1 a b) (c, 0, ws .i64 (a.length : Int) 1)).bind fun (d, e) =>
  (integer_trim d).bind fun f =>
  some (f, wc .u32 e)

def math_bits_Len32_j2 (a : Int) (b : Int) : Option (Int) :=
  (getI [0, 1, 2, 2, 3, 3, 3, 3, 4, 4, 4, 4, 4, 4, 4, 4, 5, 5, 5, 5, 5, 5, 5, 5, 5, 5, 5, 5, 5, 5, 5, 5, 6, 6, 6, 6, 6, 6, 6, 6, 6, 6, 6, 6, 6, 6, 6, 6, 6, 6, 6, 6, 6, 6, 6, 6, 6, 6, 6, 6, 6, 6, 6, 6, 7, 7, 7, 7, 7, 7, 7, 7, 7, 7, 7, 7, 7, 7, 7, 7, 7, 7, 7, 7, 7, 7, 7, 7, 7, 7, 7, 7, 7, 7, 7, 7, 7, 7, 7, 7, 7, 7, 7, 7, 7, 7, 7, 7, 7, 7, 7, 7, 7, 7, 7, 7, 7, 7, 7, 7, 7, 7, 7, 7, 7, 7, 7, 7, 8, 8, 8, 8, 8, 8, 8, 8, 8, 8, 8, 8, 8, 8, 8, 8, 8, 8, 8, 8, 8, 8, 8, 8, 8, 8, 8, 8, 8, 8, 8, 8, 8, 8, 8, 8, 8, 8, 8, 8, 8, 8, 8, 8, 8, 8, 8, 8, 8, 8, 8, 8, 8, 8, 8, 8, 8, 8, 8, 8, 8, 8, 8, 8, 8, 8, 8, 8, 8, 8, 8, 8, 8, 8, 8, 8, 8, 8, 8, 8, 8, 8, 8, 8, 8, 8, 8, 8, 8, 8, 8, 8, 8, 8, 8, 8, 8, 8, 8, 8, 8, 8, 8, 8, 8, 8, 8, 8, 8, 8, 8, 8, 8, 8, 8, 8, 8, 8, 8, 8, 8, 8, 8, 8, 8, 8, 8, 8] (wc .u8 a)).bind fun c =>
  some (wa .i64 b (wc .i64 c))
def math_bits_Len32_j1 (a : Int) (b : Int) : Option (Int) :=
  if (256 : Int) ≤ a then
    math_bits_Len32_j2 (wsrc .u32 a 8) (wa .i64 b 8)
  else
    math_bits_Len32_j2 a b
def math_bits_Len32 (a : Int) : Option (Int) :=
  if (65536 : Int) ≤ a then
    math_bits_Len32_j1 (wsrc .u32 a 16) 16
  else
    math_bits_Len32_j1 a 0

def math_bits_LeadingZeros32 (a : Int) : Option (Int) :=
  (math_bits_Len32 a).bind fun b =>
  some (ws .i64 32 b)
end M
