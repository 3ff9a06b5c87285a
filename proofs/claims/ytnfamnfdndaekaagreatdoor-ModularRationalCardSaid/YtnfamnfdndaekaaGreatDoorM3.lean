/- Models of functions of the program, printed. -/
import Derived.Test.YtnfamnfdndaekaaGreatDoorM2
namespace M
open Sx
set_option linter.unusedVariables false
def integer_plus_j5 (b : LI) (c : Int) (a : Int) : Option ((LI × Int × Int) ⊕ ((LI × Int))) :=
  (app b [wc .u32 (wand .u64 a 4294967295)]).bind fun d =>
  some (.inl (d, wsrc .u64 a 32, wa .i64 c 1))
def integer_plus_l4 (d : LI) (e : LI) : LI × Int × Int → Option ((LI × Int × Int) ⊕ ((LI × Int))) := fun (b, c, a) =>
  if a < (d.length : Int) then
    (getI d a).bind fun f =>
    if a < (e.length : Int) then
      (getI e a).bind fun g =>
      integer_plus_j5 b a (wa .u64 (wa .u64 (wc .u64 f) c) (wc .u64 g))
    else
      integer_plus_j5 b a (wa .u64 (wc .u64 f) c)
  else
    some (.inr (b, c))
def integer_plus_j1 (a : LI) (b : LI) : Option (LI) :=
  (mkLc 0 0 (wa .i64 (a.length : Int) 1)).bind fun c =>
  (loop (integer_plus_l4 a b) (c, 0, 0)).bind fun (d, e) =>
  (app d [wc .u32 e]).bind fun f =>
  (integer_trim f).bind fun g =>
  some g
def integer_plus (a : LI) (b : LI) : Option (LI) :=
  if (a.length : Int) < (b.length : Int) then
    integer_plus_j1 b a
  else
    integer_plus_j1 a b

def integer_minus_j4 (c : LI) (a : Int) (b : Int) : Option ((LI × Int × Int) ⊕ (LI)) :=
  (setI c a (wc .u32 (wand .u64 b 4294967295))).bind fun d =>
  some (.inl (d, wand .u64 (wsrc .u64 b 32) 1, wa .i64 a 1))
def integer_minus_l3 (c : LI) (d : LI) : LI × Int × Int → Option ((LI × Int × Int) ⊕ (LI)) := fun (b, e, a) =>
  if a < (c.length : Int) then
    (getI c a).bind fun f =>
    if a < (d.length : Int) then
      (getI d a).bind fun g =>
      integer_minus_j4 b a (ws .u64 (ws .u64 (wc .u64 f) e) (wc .u64 g))
    else
      integer_minus_j4 b a (ws .u64 (wc .u64 f) e)
  else
    some (.inr b)
def integer_minus (a : LI) (b : LI) : Option (LI) :=
  (mkL 0 (a.length : Int)).bind fun c =>
  (loop (integer_minus_l3 a b) (c, 0, 0)).bind fun d =>
  (integer_trim d).bind fun e =>
  some e

def integer_DivMod_j2 (c : Bool) (d : Bool) (e : LI) (f : LI) : Option (Bool × LI × Bool × LI × Int) :=
  (integer_big (!((c == d))) e).bind fun a =>
  (integer_big false f).bind fun b =>
  some (a.1, a.2, b.1, b.2, 0)
def integer_DivMod (b : Bool) (e : LI) (d : Bool) (f : LI) : Option (Bool × LI × Bool × LI × Int) :=
  (integer_trim f).bind fun c =>
  if (c.length : Int) = 0 then
    some (false, [], false, [], 8)
  else
    (integer_trim e).bind fun g =>
    (integer_divide g c).bind fun a =>
    if (b && (decide ((0 : Int) < (a.2.length : Int)))) = true then
      (integer_plus a.1 [1]).bind fun h =>
      (integer_minus c a.2).bind fun i =>
      integer_DivMod_j2 b d h i
    else
      integer_DivMod_j2 b d a.1 a.2

def integer_Int_l1 (b : LI) : Int × Int → Option ((Int × Int) ⊕ (Int)) := fun (c, a) =>
  if a < (b.length : Int) then
    (getI b a).bind fun d =>
    (wshl .u64 (wc .u64 d) (wm .i64 32 a)).bind fun e =>
    some (.inl (wor .u64 c e, wa .i64 a 1))
  else
    some (.inr c)
def integer_Int (b : Bool) (d : LI) : Option (Int × Bool) :=
  (integer_trim d).bind fun c =>
  if (2 : Int) < (c.length : Int) then
    some (0, false)
  else
    (loop (integer_Int_l1 c) (0, 0)).bind fun a =>
    if ((b && (decide ((0 : Int) < a))) && (decide (a ≤ 9223372036854775808))) = true then
      some (ws .i64 (wneg .i64 (wc .i64 (ws .u64 a 1))) 1, true)
    else
      if ((decide (a < 9223372036854775808)) && ((!(b)) || (decide (a = 0)))) = true then
        some (wc .i64 a, true)
      else
        some (0, false)

def modular_remainder (c : Bool) (d : LI) (e : Int) : Option (Int) :=
  (integer_FromInt e).bind fun a =>
  (integer_DivMod c d a.1 a.2).bind fun b =>
  (integer_Int b.2.2.1 b.2.2.2.1).bind fun f =>
  some f.1

def integer_times_l5 (d : LI) (e : Int) (f : Int) : LI × Int × Int → Option ((LI × Int × Int) ⊕ ((LI × Int))) := fun (b, c, a) =>
  if a < (d.length : Int) then
    (getI d a).bind fun g =>
    (getI b (wa .i64 e a)).bind fun h =>
    (setI b (wa .i64 e a) (wc .u32 (wand .u64 (wa .u64 (wa .u64 (wm .u64 (wc .u64 f) (wc .u64 g)) (wc .u64 h)) c) 4294967295))).bind fun i =>
    some (.inl (i, wsrc .u64 (wa .u64 (wa .u64 (wm .u64 (wc .u64 f) (wc .u64 g)) (wc .u64 h)) c) 32, wa .i64 a 1))
  else
    some (.inr (b, c))
def integer_times_l4 (b : LI) (c : LI) : LI × Int → Option ((LI × Int) ⊕ (LI)) := fun (d, a) =>
  if a < (b.length : Int) then
    (getI b a).bind fun e =>
    (loop (integer_times_l5 c a e) (d, 0, 0)).bind fun (f, g) =>
    (setI f (wa .i64 a (c.length : Int)) (wc .u32 g)).bind fun h =>
    some (.inl (h, wa .i64 a 1))
  else
    some (.inr d)
def integer_times (a : LI) (b : LI) : Option (LI) :=
  if ((decide ((a.length : Int) = 0)) || (decide ((b.length : Int) = 0))) = true then
    some []
  else
    (mkL 0 (wa .i64 (a.length : Int) (b.length : Int))).bind fun c =>
    (loop (integer_times_l4 a b) (c, 0)).bind fun d =>
    (integer_trim d).bind fun e =>
    some e

def integer_Mul (b : Bool) (c : LI) (d : Bool) (e : LI) : Option (Bool × LI) :=
  (integer_trim c).bind fun f =>
  (integer_trim e).bind fun g =>
  (integer_times f g).bind fun h =>
  (integer_big (!((b == d))) h).bind fun a =>
  some (a.1, a.2)

def integer_Add (c : Bool) (h : LI) (d : Bool) (i : LI) : Option (Bool × LI) :=
  (integer_trim h).bind fun a =>
  (integer_trim i).bind fun b =>
  if (c == d) = true then
    (integer_plus a b).bind fun j =>
    (integer_big c j).bind fun e =>
    some (e.1, e.2)
  else
    (integer_compare a b).bind fun k =>
    if (0 : Int) ≤ k then
      (integer_minus a b).bind fun l =>
      (integer_big c l).bind fun f =>
      some (f.1, f.2)
    else
      (integer_minus b a).bind fun m =>
      (integer_big d m).bind fun g =>
      some (g.1, g.2)

def integer_Sign (a : Bool) (b : LI) : Option (Int) :=
  (integer_trim b).bind fun c =>
  if (c.length : Int) = 0 then
    some 0
  else
    if a = true then
      some (-1)
    else
      some 1

def integer_Cmp (e : Bool) (b : LI) (f : Bool) (c : LI) : Option (Int) :=
  (integer_Sign e b).bind fun a =>
  (integer_Sign f c).bind fun d =>
  if a < d then
    some (-1)
  else
    if d < a then
      some 1
    else
      (integer_trim b).bind fun g =>
      (integer_trim c).bind fun h =>
      (integer_compare g h).bind fun i =>
      some (wm .i64 a i)

def integer_Sub (b : Bool) (c : LI) (d : Bool) (e : LI) : Option (Bool × LI) :=
  (integer_Add b c (!(d)) e).bind fun a =>
  some (a.1, a.2)

def modular_Combine_j2 (a : Bool) (b : LI) (c : Bool) (d : LI) : Option (Bool × LI × Bool × LI × Int) :=
  some (c, d, a, b, 0)
def modular_Combine_l1 (g : LI) (m : LI) : Bool × LI × Bool × LI × Int → Option ((Bool × LI × Bool × LI × Int) ⊕ ((Bool × LI × Bool × LI))) := fun (e, f, b, c, d) =>
  if d < (g.length : Int) then
    (getI g d).bind fun a =>
    (getI m d).bind fun n =>
    (modular_mod n a).bind fun o =>
    (modular_remainder e f a).bind fun p =>
    (modular_mod (ws .i64 o p) a).bind fun q =>
    (modular_remainder b c a).bind fun r =>
    (modular_inverse r a).bind fun s =>
    (wr (wm .i64 q s) a).bind fun t =>
    (integer_FromInt t).bind fun h =>
    (integer_Mul b c h.1 h.2).bind fun i =>
    (integer_Add e f i.1 i.2).bind fun j =>
    (integer_FromInt a).bind fun k =>
    (integer_Mul b c k.1 k.2).bind fun l =>
    some (.inl (j.1, j.2, l.1, l.2, wa .i64 d 1))
  else
    some (.inr (e, f, b, c))
def modular_Combine (f : LI) (a : LI) : Option (Bool × LI × Bool × LI × Int) :=
  if (f.length : Int) = (a.length : Int) then
    (slices_ContainsFunc_int_v2 a).bind fun j =>
    if j = true then
      some (false, [], false, [], 70)
    else
      (slices_Values_int a).bind fun n =>
      (slices_Sorted_int a).bind fun k =>
      (compactI k).bind fun l =>
      if (l.length : Int) = (a.length : Int) then
        (integer_FromInt 1).bind fun g =>
        (loop (modular_Combine_l1 a f) (false, [], g.1, g.2, 0)).bind fun (b, c, d, e) =>
        (integer_Add b c b c).bind fun h =>
        (integer_Cmp h.1 h.2 d e).bind fun m =>
        if (0 : Int) < m then
          (integer_Sub b c d e).bind fun i =>
          modular_Combine_j2 d e i.1 i.2
        else
          modular_Combine_j2 d e b c
      else
        some (false, [], false, [], 1)
  else
    some (false, [], false, [], 2)

def sparsekit_Ints_l1 (b : LI) (c : LI) : Int → Option ((Int) ⊕ (Unit ⊕ Unit)) := fun a =>
  if a < (b.length : Int) then
    (getI b a).bind fun d =>
    (getI c a).bind fun e =>
    if d = e then
      some (.inl (wa .i64 a 1))
    else
      some (.inr (.inr ()))
  else
    some (.inr (.inl ()))
def sparsekit_Ints (a : LI) (b : LI) : Option (Bool) :=
  if (a.length : Int) = (b.length : Int) then
    (loop (sparsekit_Ints_l1 a b) 0).bind (fun o => match o with
      | .inl () =>
        some true
      | .inr () =>
        some false)
  else
    some false

def slices_Reverse_string_l1 : (List ByteArray) × Int × Int → Option (((List ByteArray) × Int × Int) ⊕ (((List ByteArray)))) := fun (a, b, c) =>
  if b < c then
    (getI a c).bind fun d =>
    (getI a b).bind fun e =>
    (setI a b d).bind fun f =>
    (setI f c e).bind fun g =>
    some (.inl (g, wa .i64 b 1, ws .i64 c 1))
  else
    some (.inr a)
def slices_Reverse_string (a : List ByteArray) : Option ((List ByteArray)) :=
  (loop (slices_Reverse_string_l1) (a, 0, ws .i64 (a.length : Int) 1)).bind fun b =>
  some b
end M
