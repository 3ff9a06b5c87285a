/- Models of functions of the program, printed. -/
import Derived.Test.YtnfamnfdndaekaaGreatDoorM3
namespace M
open Sx
set_option linter.unusedVariables false
def integer_Format_j4 (a : List ByteArray) : Option (ByteArray) :=
  (slices_Reverse_string a).bind fun b =>
  (joinG b (⟨#[]⟩ : ByteArray)).bind fun c =>
  some c
def integer_Format_j5 (a : List ByteArray) (b : ByteArray) (c : LI × Int) : Option ((LI × (List ByteArray)) ⊕ (((List ByteArray)))) :=
  (app a [b]).bind fun d =>
  some (.inl (c.1, d))
def integer_Format_l3 : LI × (List ByteArray) → Option ((LI × (List ByteArray)) ⊕ (((List ByteArray)))) := fun (b, c) =>
  if (0 : Int) < (b.length : Int) then
    (integer_short b 1000000000).bind fun a =>
    (itoaG (wc .i64 a.2)).bind fun d =>
    if (0 : Int) < (a.1.length : Int) then
      none
    else
      integer_Format_j5 c d a
  else
    some (.inr c)
def integer_Format (b : Bool) (c : LI) : Option (ByteArray) :=
  (integer_trim c).bind fun d =>
  (slices_Clone_uint32 d).bind fun e =>
  (loop (integer_Format_l3) (e, [])).bind fun a =>
  if (a.length : Int) = 0 then
    some (⟨#[48]⟩ : ByteArray)
  else
    if b = true then
      (app a [(⟨#[45]⟩ : ByteArray)]).bind fun f =>
      integer_Format_j4 f
    else
      integer_Format_j4 a

def sparselaw07_awake : Option (Bool) :=
  (modular_Inverse 3 7).bind fun b =>
  (modular_Kernel [[1, 2]] 7).bind fun c =>
  (modular_Combine [1, 2] [2, 3]).bind fun a =>
  (if (((decide (b.2 = 0)) && (decide (b.1 = 5))) && (decide (c.2 = 0))) = true then
    (sparsekit_Ints c.1 [5, 1]).bind fun d =>
    some d
  else
    some false).bind fun e =>
  (if (e && (decide (a.2.2.2.2 = 0))) = true then
    (integer_Format a.1 a.2.1).bind fun f =>
    some (decide (f = (⟨#[45, 49]⟩ : ByteArray)))
  else
    some false).bind fun g =>
  (if g = true then
    (integer_Format a.2.2.1 a.2.2.2.1).bind fun h =>
    some (decide (h = (⟨#[54]⟩ : ByteArray)))
  else
    some false).bind fun i =>
  (if i = true then
    (modular_IsPrime 2).bind fun j =>
    some j
  else
    some false).bind fun k =>
  (if k = true then
    (modular_IsPrime 9).bind fun l =>
    some (!(l))
  else
    some false).bind fun m =>
  some m

def integer_Norm (b : Bool) (c : LI) : Option (Bool × LI) :=
  (slices_Clone_uint32 c).bind fun d =>
  (integer_big b d).bind fun a =>
  some (a.1, a.2)

def modular_within (b : Bool) (c : LI) (e : Bool) (f : LI) : Option (Bool) :=
  (integer_Mul b c b c).bind fun a =>
  (integer_Add a.1 a.2 a.1 a.2).bind fun d =>
  (integer_Cmp d.1 d.2 e f).bind fun g =>
  some (decide (g ≤ 0))

def integer_Neg (b : Bool) (c : LI) : Option (Bool × LI) :=
  (slices_Clone_uint32 c).bind fun d =>
  (integer_big (!(b)) d).bind fun a =>
  some (a.1, a.2)

def integer_GCD_l1 : LI × LI → Option ((LI × LI) ⊕ (LI)) := fun (b, a) =>
  if (0 : Int) < (a.length : Int) then
    (integer_divide b a).bind fun c =>
    some (.inl (a, c.2))
  else
    some (.inr b)
def integer_GCD (i : Bool) (b : LI) (j : Bool) (c : LI) : Option (Bool × LI) :=
  (integer_trim b).bind fun d =>
  (slices_Clone_uint32 d).bind fun e =>
  (integer_trim c).bind fun f =>
  (slices_Clone_uint32 f).bind fun g =>
  (loop (integer_GCD_l1) (e, g)).bind fun h =>
  (integer_big false h).bind fun a =>
  some (a.1, a.2)

def modular_Rational_j3 (g : Bool) (h : LI) (c : Bool) (d : LI) (a : Bool) (b : LI) : Option (Bool × LI × Bool × LI × Bool) :=
  (integer_Sign a b).bind fun i =>
  (if i = 0 then
    some true
  else
    (modular_within a b g h).bind fun j =>
    some (!(j))).bind fun k =>
  (if k = true then
    some true
  else
    (integer_GCD c d a b).bind fun e =>
    (integer_FromInt 1).bind fun f =>
    (integer_Cmp e.1 e.2 f.1 f.2).bind fun l =>
    some (!(decide (l = 0)))).bind fun m =>
  if m = true then
    some (false, [], false, [], false)
  else
    some (c, d, a, b, true)
def modular_Rational_l2 (l : Bool) (m : LI) : Bool × LI × Bool × LI × Bool × LI × Bool × LI → Option ((Bool × LI × Bool × LI × Bool × LI × Bool × LI) ⊕ ((Bool × LI × Bool × LI))) := fun (b, c, d, e, f, g, h, i) =>
  (modular_within b c l m).bind fun n =>
  if n = true then
    some (.inr (b, c, f, g))
  else
    (integer_DivMod b c d e).bind fun a =>
    (integer_Mul a.1 a.2.1 h i).bind fun j =>
    (integer_Sub f g j.1 j.2).bind fun k =>
    some (.inl (d, e, a.2.2.1, a.2.2.2.1, h, i, k.1, k.2))
def modular_Rational (l : Bool) (m : LI) (a : Bool) (b : LI) : Option (Bool × LI × Bool × LI × Bool) :=
  (integer_Sign a b).bind fun n =>
  if n ≤ 0 then
    some (false, [], false, [], false)
  else
    (integer_DivMod l m a b).bind fun e =>
    (integer_Norm a b).bind fun f =>
    (integer_FromInt 1).bind fun g =>
    (loop (modular_Rational_l2 a b) (f.1, f.2, e.2.2.1, e.2.2.2.1, false, [], g.1, g.2)).bind fun (h, i, c, d) =>
    (integer_Sign c d).bind fun o =>
    if o < 0 then
      (integer_Neg h i).bind fun j =>
      (integer_Neg c d).bind fun k =>
      modular_Rational_j3 a b j.1 j.2 k.1 k.2
    else
      modular_Rational_j3 a b h i c d

def sparseref01_trim_l4 (c : Int) (d : LI) : LI × Int → Option ((LI × Int) ⊕ (LI)) := fun (b, a) =>
  if a < c then
    (getI d a).bind fun e =>
    (app b [e]).bind fun f =>
    some (.inl (f, wa .i64 a 1))
  else
    some (.inr b)
def sparseref01_trim_l3 (b : LI) : Int → Option ((Int) ⊕ (Int)) := fun a =>
  (if (0 : Int) < a then
    (getI b (ws .i64 a 1)).bind fun c =>
    some (decide (c = 0))
  else
    some false).bind fun d =>
  if d = true then
    some (.inl (ws .i64 a 1))
  else
    some (.inr a)
def sparseref01_trim (a : LI) : Option (LI) :=
  (loop (sparseref01_trim_l3 a) (a.length : Int)).bind fun b =>
  (loop (sparseref01_trim_l4 b a) ([], 0)).bind fun c =>
  some c

def sparseref01_make1 (b : Bool) (c : LI) : Option (Bool × LI) :=
  (sparseref01_trim c).bind fun a =>
  some ((b && (decide ((0 : Int) < (a.length : Int)))), a)

def sparseref01_Norm (b : Bool) (c : LI) : Option (Bool × LI) :=
  (sparseref01_make1 b c).bind fun a =>
  some (a.1, a.2)

def sparseref01_Sign (b : Bool) (c : LI) : Option (Int) :=
  (sparseref01_Norm b c).bind fun a =>
  if (a.2.length : Int) = 0 then
    some 0
  else
    if a.1 = true then
      some (-1)
    else
      some 1

def sparseref01_cmpMag_l1 (b : LI) (c : LI) : Int → Option ((Int) ⊕ (Unit ⊕ Int)) := fun a =>
  if (0 : Int) ≤ a then
    (getI b a).bind fun d =>
    (getI c a).bind fun e =>
    if d = e then
      some (.inl (ws .i64 a 1))
    else
      (getI b a).bind fun f =>
      (getI c a).bind fun g =>
      if f < g then
        some (.inr (.inr (-1)))
      else
        some (.inr (.inr 1))
  else
    some (.inr (.inl ()))
def sparseref01_cmpMag (a : LI) (b : LI) : Option (Int) :=
  if (a.length : Int) = (b.length : Int) then
    (loop (sparseref01_cmpMag_l1 a b) (ws .i64 (a.length : Int) 1)).bind (fun o => match o with
      | .inl () =>
        some 0
      | .inr c =>
        some c)
  else
    if (a.length : Int) < (b.length : Int) then
      some (-1)
    else
      some 1

def sparseref01_shl_l1 (c : LI) (f : Int) : LI × Int × Int → Option ((LI × Int × Int) ⊕ ((LI × Int))) := fun (d, a, b) =>
  if b < (c.length : Int) then
    (getI c b).bind fun g =>
    (wshl .u64 (wc .u64 g) (wrc f 32)).bind fun e =>
    (app d [wc .u32 (wor .u64 a e)]).bind fun h =>
    some (.inl (h, wsrc .u64 (wor .u64 a e) 32, wa .i64 b 1))
  else
    some (.inr (d, a))
def sparseref01_shl (b : LI) (a : Int) : Option (LI) :=
  (mkL 0 (wqc .i64 a 32)).bind fun c =>
  (loop (sparseref01_shl_l1 b a) (c, 0, 0)).bind fun (d, e) =>
  (app d [wc .u32 e]).bind fun f =>
  some f

def sparseref01_take_l4 (c : LI) (d : LI) (e : Int) : LI × Int → Option ((LI × Int) ⊕ (LI)) := fun (b, a) =>
  if a ≤ (c.length : Int) then
    (getI d a).bind fun f =>
    (setI b (wa .i64 a e) f).bind fun g =>
    some (.inl (g, wa .i64 a 1))
  else
    some (.inr b)
def sparseref01_take_j5 (e : LI) (a : Int) (f : Int) (g : LI) (c : Int) (b : Int) : Option ((LI × Int × Int × Int) ⊕ ((LI × Int))) :=
  (getI e (wa .i64 a f)).bind fun d =>
  (setI g a (wc .u32 (ws .u64 (ws .u64 (wc .u64 d) c) (wand .u64 b 4294967295)))).bind fun h =>
  some (.inl (h, wsrc .u64 (ws .u64 (ws .u64 (wc .u64 d) c) (wand .u64 b 4294967295)) 63, wsrc .u64 b 32, wa .i64 a 1))
def sparseref01_take_l3 (b : LI) (e : LI) (f : Int) (h : Int) : LI × Int × Int × Int → Option ((LI × Int × Int × Int) ⊕ ((LI × Int))) := fun (c, d, g, a) =>
  if a ≤ (b.length : Int) then
    if a < (b.length : Int) then
      (getI b a).bind fun i =>
      sparseref01_take_j5 e a f c d (wa .u64 g (wm .u64 h (wc .u64 i)))
    else
      sparseref01_take_j5 e a f c d g
  else
    some (.inr (c, d))
def sparseref01_take (a : LI) (b : LI) (c : Int) (d : Int) : Option (LI × Bool) :=
  (mkL 0 (wa .i64 (b.length : Int) 1)).bind fun e =>
  (loop (sparseref01_take_l3 b a c d) (e, 0, 0, 0)).bind fun (f, g) =>
  if g = 0 then
    (loop (sparseref01_take_l4 b f c) (a, 0)).bind fun h =>
    some (h, true)
  else
    some (a, false)
end M
