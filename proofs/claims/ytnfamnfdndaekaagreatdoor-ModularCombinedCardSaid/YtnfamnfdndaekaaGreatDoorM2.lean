/- Models of functions of the program, printed. -/
import Derived.Test.YtnfamnfdndaekaaGreatDoorM1
namespace M
open Sx
set_option linter.unusedVariables false
def cmp_Compare_int (a : Int) (b : Int) : Option (Int) :=
  (cmp_isNaN_int a).bind fun d =>
  (cmp_isNaN_int b).bind fun c =>
  if d = true then
    if c = true then
      some 0
    else
      some (-1)
  else
    if c = true then
      some 1
    else
      if a < b then
        some (-1)
      else
        if b < a then
          some 1
        else
          some 0

def integer_compare_l1 (b : LI) (c : LI) : Int → Option ((Int) ⊕ (Unit ⊕ Int)) := fun a =>
  if (0 : Int) ≤ a then
    (getI b a).bind fun d =>
    (getI c a).bind fun e =>
    if d = e then
      some (.inl (ws .i64 a 1))
    else
      (getI b a).bind fun f =>
      (getI c a).bind fun g =>
      (cmp_Compare_uint32 f g).bind fun h =>
      some (.inr (.inr h))
  else
    some (.inr (.inl ()))
def integer_compare (a : LI) (b : LI) : Option (Int) :=
  if (a.length : Int) = (b.length : Int) then
    (loop (integer_compare_l1 a b) (ws .i64 (a.length : Int) 1)).bind (fun o => match o with
      | .inl () =>
        some 0
      | .inr c =>
        some c)
  else
    (cmp_Compare_int (a.length : Int) (b.length : Int)).bind fun d =>
    some d

def slices_Clone_uint32 (a : LI) : Option (LI) :=
  (app [] a).bind fun b =>
  some b

def integer_short_l1 (f : LI) (c : Int) : LI × Int × Int → Option ((LI × Int × Int) ⊕ ((LI × Int))) := fun (d, b, a) =>
  if (0 : Int) ≤ a then
    (getI f a).bind fun e =>
    (wq .u64 (wor .u64 (wslc .u64 b 32) (wc .u64 e)) (wc .u64 c)).bind fun g =>
    (setI d a (wc .u32 g)).bind fun h =>
    (wr (wor .u64 (wslc .u64 b 32) (wc .u64 e)) (wc .u64 c)).bind fun i =>
    some (.inl (h, i, ws .i64 a 1))
  else
    some (.inr (d, b))
def integer_short (a : LI) (b : Int) : Option (LI × Int) :=
  (mkL 0 (a.length : Int)).bind fun c =>
  (loop (integer_short_l1 a b) (c, 0, ws .i64 (a.length : Int) 1)).bind fun (d, e) =>
  (integer_trim d).bind fun f =>
  some (f, wc .u32 e)

def math_bits_Len32_j2 (a : Int) (b : Int) : Option (Int) :=
  (getI [0, 1, 2, 2, 3, 3, 3, 3, 4, 4, 4, 4, 4, 4, 4, 4, 5, 5, 5, 5, 5, 5, 5, 5, 5, 5, 5, 5, 5, 5, 5, 5, 6, 6, 6, 6, 6, 6, 6, 6, 6, 6, 6, 6, 6, 6, 6, 6, 6, 6, 6, 6, 6, 6, 6, 6, 6, 6, 6, 6, 6, 6, 6, 6, 7, 7, 7, 7, 7, 7, 7, 7, 7, 7, 7, 7, 7, 7, 7, 7, 7, 7, 7, 7, 7, 7, 7, 7, 7, 7, 7, 7, 7, 7, 7, 7, 7, 7, 7, 7, 7, 7, 7, 7, 7, 7, 7, 7, 7, 7, 7, 7, 7, 7, 7, 7, 7, 7, 7, 7, 7, 7, 7, 7, 7, 7, 7, 7, 8, 8, 8, 8, 8, 8, 8, 8, 8, 8, 8, 8, 8, 8, 8, 8, 8, 8, 8, 8, 8, 8, 8, 8, 8, 8, 8, 8, 8, 8, 8, 8, 8, 8, 8, 8, 8, 8, 8, 8, 8, 8, 8, 8, 8, 8, 8, 8, 8, 8, 8, 8, 8, 8, 8, 8, 8, 8, 8, 8, 8, 8, 8, 8, 8, 8, 8, 8, 8, 8, 8, 8, 8, 8, 8, 8, 8, 8, 8, 8, 8, 8, 8, 8, 8, 8, 8, 8, 8, 8, 8, 8, 8, 8, 8, 8, 8, 8, 8, 8, 8, 8, 8, 8, 8, 8, 8, 8, 8, 8, 8, 8, 8, 8, 8, 8, 8, 8, 8, 8, 8, 8, 8, 8, 8, 8, 8, 8] (wc .u8 a)).bind fun c =>
  some (wa .i64 b (wc .i64 c))
def math_bits_Len32_j1 (a : Int) (b : Int) : Option (Int) :=
  if (256 : Int) ≤ a then
    math_bits_Len32_j2 (wsrc .u32 a 8) (wa .i64 b 8)
  else
    math_bits_Len32_j2 a b
def math_bits_Len32 (a : Int) : Option (Int) :=
  if (65536 : Int) ≤ a then
    math_bits_Len32_j1 (wsrc .u32 a 16) 16
  else
    math_bits_Len32_j1 a 0

def math_bits_LeadingZeros32 (a : Int) : Option (Int) :=
  (math_bits_Len32 a).bind fun b =>
  some (ws .i64 32 b)

def integer_up_l1 (d : LI) (b : Int) : LI × Int → Option ((LI × Int) ⊕ (LI)) := fun (c, a) =>
  if a < (d.length : Int) then
    (getI d a).bind fun f =>
    (wshl .u64 (wc .u64 f) (wc .u64 (wrc b 32))).bind fun e =>
    (getI c (wa .i64 (wqc .i64 b 32) a)).bind fun g =>
    (setI c (wa .i64 (wqc .i64 b 32) a) (wor .u32 g (wc .u32 (wand .u64 e 4294967295)))).bind fun h =>
    (setI h (wa .i64 (wa .i64 (wqc .i64 b 32) a) 1) (wc .u32 (wsrc .u64 e 32))).bind fun i =>
    some (.inl (i, wa .i64 a 1))
  else
    some (.inr c)
def integer_up (a : LI) (b : Int) : Option (LI) :=
  if (a.length : Int) = 0 then
    some []
  else
    (mkL 0 (wa .i64 (wa .i64 (wqc .i64 b 32) (a.length : Int)) 1)).bind fun c =>
    (loop (integer_up_l1 a b) (c, 0)).bind fun d =>
    (integer_trim d).bind fun e =>
    some e

def integer_down_1 (a : Int) : Option (Bool) :=
  some (!(decide (a = 0)))

def slices_IndexFunc_uint32_l1 (b : LI) : Int → Option ((Int) ⊕ (Unit ⊕ Int)) := fun a =>
  if a < (b.length : Int) then
    (getI b a).bind fun c =>
    (integer_down_1 c).bind fun d =>
    if d = true then
      some (.inr (.inr a))
    else
      some (.inl (wa .i64 a 1))
  else
    some (.inr (.inl ()))
def slices_IndexFunc_uint32 (a : LI) : Option (Int) :=
  (loop (slices_IndexFunc_uint32_l1 a) 0).bind (fun o => match o with
    | .inl () =>
      some (-1)
    | .inr b =>
      some b)

def slices_ContainsFunc_uint32 (a : LI) : Option (Bool) :=
  (slices_IndexFunc_uint32 a).bind fun b =>
  some (decide ((0 : Int) ≤ b))

def integer_down_j5 (b : Int) (c : LI) (a : Int) (d : Int) : Option ((LI × Int) ⊕ (LI)) :=
  (wshr .u64 d (wc .u64 (wrc b 32))).bind fun e =>
  (setI c a (wc .u32 (wand .u64 e 4294967295))).bind fun f =>
  some (.inl (f, wa .i64 a 1))
def integer_down_l4 (f : LI) (c : LI) (b : Int) : LI × Int → Option ((LI × Int) ⊕ (LI)) := fun (d, a) =>
  if a < (f.length : Int) then
    (getI c (wa .i64 (wqc .i64 b 32) a)).bind fun e =>
    if (wa .i64 (wa .i64 (wqc .i64 b 32) a) 1) < (c.length : Int) then
      (getI c (wa .i64 (wa .i64 (wqc .i64 b 32) a) 1)).bind fun g =>
      integer_down_j5 b d a (wor .u64 (wc .u64 e) (wslc .u64 (wc .u64 g) 32))
    else
      integer_down_j5 b d a (wc .u64 e)
  else
    some (.inr d)
def integer_down (a : LI) (b : Int) : Option (LI × Bool) :=
  if (a.length : Int) ≤ (wqc .i64 b 32) then
    some ([], decide ((0 : Int) < (a.length : Int)))
  else
    (sli a 0 (wqc .i64 b 32)).bind fun d =>
    (slices_ContainsFunc_uint32 d).bind fun e =>
    (if e = true then
      some true
    else
      (getI a (wqc .i64 b 32)).bind fun f =>
      (wshl .u32 1 (wc .u64 (wrc b 32))).bind fun g =>
      some (!(decide ((wand .u32 f (ws .u32 g 1)) = 0)))).bind fun h =>
    (mkL 0 (ws .i64 (a.length : Int) (wqc .i64 b 32))).bind fun c =>
    (loop (integer_down_l4 c a b) (c, 0)).bind fun i =>
    (integer_trim i).bind fun j =>
    some (j, h)

def integer_divide_l1 (a : LI) : Unit → Option ((Unit) ⊕ (Unit)) := fun _ =>
  if (0 : Int) ≤ (ws .i64 (a.length : Int) 1) then
    none
  else
    some (.inr ())
def integer_divide (b : LI) (a : LI) : Option (LI × LI) :=
  (integer_compare b a).bind fun i =>
  if i < 0 then
    (slices_Clone_uint32 b).bind fun j =>
    some ([], j)
  else
    if (a.length : Int) = 1 then
      (getI a 0).bind fun k =>
      (integer_short b k).bind fun d =>
      (integer_trim [d.2]).bind fun l =>
      some (d.1, l)
    else
      (getI a (ws .i64 (a.length : Int) 1)).bind fun m =>
      (math_bits_LeadingZeros32 m).bind fun c =>
      (integer_up a c).bind fun e =>
      (mkL 0 (wa .i64 (b.length : Int) 1)).bind fun f =>
      (integer_up b c).bind fun n =>
      (cpI f 0 (f.length : Int) n).bind fun g =>
      (mkL 0 (ws .i64 (g.1.length : Int) (e.length : Int))).bind fun h =>
      (loop (integer_divide_l1 h) ()).bind fun _ =>
      (sli g.1 0 (e.length : Int)).bind fun o =>
      (integer_trim o).bind fun p =>
      (integer_down p c).bind fun q =>
      (integer_trim h).bind fun r =>
      some (r, q.1)

def integer_plus_j5 (b : LI) (c : Int) (a : Int) : Option ((LI × Int × Int) ⊕ ((LI × Int))) :=
  (app b [wc .u32 (wand .u64 a 4294967295)]).bind fun d =>
  some (.inl (d, wsrc .u64 a 32, wa .i64 c 1))
def integer_plus_l4 (d : LI) (e : LI) : LI × Int × Int → Option ((LI × Int × Int) ⊕ ((LI × Int))) := fun (b, c, a) =>
  if a < (d.length : Int) then
    (getI d a).bind fun f =>
    if a < (e.length : Int) then
      (getI e a).bind fun g =>
      integer_plus_j5 b a (wa .u64 (wa .u64 (wc .u64 f) c) (wc .u64 g))
    else
      integer_plus_j5 b a (wa .u64 (wc .u64 f) c)
  else
    some (.inr (b, c))
def integer_plus_j1 (a : LI) (b : LI) : Option (LI) :=
  (mkLc 0 0 (wa .i64 (a.length : Int) 1)).bind fun c =>
  (loop (integer_plus_l4 a b) (c, 0, 0)).bind fun (d, e) =>
  (app d [wc .u32 e]).bind fun f =>
  (integer_trim f).bind fun g =>
  some g
def integer_plus (a : LI) (b : LI) : Option (LI) :=
  if (a.length : Int) < (b.length : Int) then
    integer_plus_j1 b a
  else
    integer_plus_j1 a b

def integer_minus_j4 (c : LI) (a : Int) (b : Int) : Option ((LI × Int × Int) ⊕ (LI)) :=
  (setI c a (wc .u32 (wand .u64 b 4294967295))).bind fun d =>
  some (.inl (d, wand .u64 (wsrc .u64 b 32) 1, wa .i64 a 1))
def integer_minus_l3 (c : LI) (d : LI) : LI × Int × Int → Option ((LI × Int × Int) ⊕ (LI)) := fun (b, e, a) =>
  if a < (c.length : Int) then
    (getI c a).bind fun f =>
    if a < (d.length : Int) then
      (getI d a).bind fun g =>
      integer_minus_j4 b a (ws .u64 (ws .u64 (wc .u64 f) e) (wc .u64 g))
    else
      integer_minus_j4 b a (ws .u64 (wc .u64 f) e)
  else
    some (.inr b)
def integer_minus (a : LI) (b : LI) : Option (LI) :=
  (mkL 0 (a.length : Int)).bind fun c =>
  (loop (integer_minus_l3 a b) (c, 0, 0)).bind fun d =>
  (integer_trim d).bind fun e =>
  some e
end M
