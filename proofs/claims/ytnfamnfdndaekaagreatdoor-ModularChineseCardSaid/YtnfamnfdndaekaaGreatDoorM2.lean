/- Models of functions of the program, printed. -/
import Derived.Test.YtnfamnfdndaekaaGreatDoorM1
namespace M
open Sx
set_option linter.unusedVariables false
def modular_Combine_1 (a : Int) : Option (Bool) :=
  (modular_IsPrime a).bind fun b =>
  some (!(b))

def slices_IndexFunc_int_l1 (b : LI) : Int → Option ((Int) ⊕ (Unit ⊕ Int)) := fun a =>
  if a < (b.length : Int) then
    (getI b a).bind fun c =>
    (modular_Combine_1 c).bind fun d =>
    if d = true then
      some (.inr (.inr a))
    else
      some (.inl (wa .i64 a 1))
  else
    some (.inr (.inl ()))
def slices_IndexFunc_int (a : LI) : Option (Int) :=
  (loop (slices_IndexFunc_int_l1 a) 0).bind (fun o => match o with
    | .inl () =>
      some (-1)
    | .inr b =>
      some b)

def slices_ContainsFunc_int (a : LI) : Option (Bool) :=
  (slices_IndexFunc_int a).bind fun b =>
  some (decide ((0 : Int) ≤ b))

def slices_Values_int (a : LI) : Option (Unit) :=
  some ()

def slices_Collect_int (a : LI) : Option (LI) :=
  (colV a).bind fun b =>
  some b

def slices_Sorted_int (a : LI) : Option (LI) :=
  (slices_Collect_int a).bind fun b =>
  (sortI b).bind fun c =>
  some c

def modular_mod_j1 (a : Int) : Option (Int) :=
  some a
def modular_mod (c : Int) (b : Int) : Option (Int) :=
  (wr c b).bind fun a =>
  if a < 0 then
    modular_mod_j1 (wa .i64 a b)
  else
    modular_mod_j1 a

def modular_raise_j4 (a : Int) (b : Int) (c : Int) (d : Int) : Option ((Int × Int × Int) ⊕ (Int)) :=
  (wr (wm .i64 a a) b).bind fun e =>
  some (.inl (e, wqc .i64 c 2, d))
def modular_raise_l3 (b : Int) : Int × Int × Int → Option ((Int × Int × Int) ⊕ (Int)) := fun (c, a, d) =>
  if (0 : Int) < a then
    if (wrc a 2) = 1 then
      (wr (wm .i64 d c) b).bind fun e =>
      modular_raise_j4 c b a e
    else
      modular_raise_j4 c b a d
  else
    some (.inr d)
def modular_raise (a : Int) (b : Int) (c : Int) : Option (Int) :=
  (loop (modular_raise_l3 c) (a, b, 1)).bind fun d =>
  some d

def modular_inverse (b : Int) (a : Int) : Option (Int) :=
  (modular_raise b (ws .i64 a 2) a).bind fun c =>
  some c

def integer_times_l5 (d : LI) (e : Int) (f : Int) : LI × Int × Int → Option ((LI × Int × Int) ⊕ ((LI × Int))) := fun (b, c, a) =>
  if a < (d.length : Int) then
    (getI d a).bind fun g =>
    (getI b (wa .i64 e a)).bind fun h =>
    (setI b (wa .i64 e a) (wc .u32 (wand .u64 (wa .u64 (wa .u64 (wm .u64 (wc .u64 f) (wc .u64 g)) (wc .u64 h)) c) 4294967295))).bind fun i =>
    some (.inl (i, wsrc .u64 (wa .u64 (wa .u64 (wm .u64 (wc .u64 f) (wc .u64 g)) (wc .u64 h)) c) 32, wa .i64 a 1))
  else
    some (.inr (b, c))
def integer_times_l4 (b : LI) (c : LI) : LI × Int → Option ((LI × Int) ⊕ (LI)) := fun (d, a) =>
  if a < (b.length : Int) then
    (getI b a).bind fun e =>
    (loop (integer_times_l5 c a e) (d, 0, 0)).bind fun (f, g) =>
    (setI f (wa .i64 a (c.length : Int)) (wc .u32 g)).bind fun h =>
    some (.inl (h, wa .i64 a 1))
  else
    some (.inr d)
def integer_times (a : LI) (b : LI) : Option (LI) :=
  if ((decide ((a.length : Int) = 0)) || (decide ((b.length : Int) = 0))) = true then
    some []
  else
    (mkL 0 (wa .i64 (a.length : Int) (b.length : Int))).bind fun c =>
    (loop (integer_times_l4 a b) (c, 0)).bind fun d =>
    (integer_trim d).bind fun e =>
    some e

def integer_Mul (b : Bool) (c : LI) (d : Bool) (e : LI) : Option (Bool × LI) :=
  (integer_trim c).bind fun f =>
  (integer_trim e).bind fun g =>
  (integer_times f g).bind fun h =>
  (integer_big (!((b == d))) h).bind fun a =>
  some (a.1, a.2)

def integer_Add (c : Bool) (h : LI) (d : Bool) (i : LI) : Option (Bool × LI) :=
  (integer_trim h).bind fun a =>
  (integer_trim i).bind fun b =>
  if (c == d) = true then
    (integer_plus a b).bind fun j =>
    (integer_big c j).bind fun e =>
    some (e.1, e.2)
  else
    (integer_compare a b).bind fun k =>
    if (0 : Int) ≤ k then
      (integer_minus a b).bind fun l =>
      (integer_big c l).bind fun f =>
      some (f.1, f.2)
    else
      (integer_minus b a).bind fun m =>
      (integer_big d m).bind fun g =>
      some (g.1, g.2)

def integer_Sign (a : Bool) (b : LI) : Option (Int) :=
  (integer_trim b).bind fun c =>
  if (c.length : Int) = 0 then
    some 0
  else
    if a = true then
      some (-1)
    else
      some 1

def integer_Cmp (e : Bool) (b : LI) (f : Bool) (c : LI) : Option (Int) :=
  (integer_Sign e b).bind fun a =>
  (integer_Sign f c).bind fun d =>
  if a < d then
    some (-1)
  else
    if d < a then
      some 1
    else
      (integer_trim b).bind fun g =>
      (integer_trim c).bind fun h =>
      (integer_compare g h).bind fun i =>
      some (wm .i64 a i)
end M
