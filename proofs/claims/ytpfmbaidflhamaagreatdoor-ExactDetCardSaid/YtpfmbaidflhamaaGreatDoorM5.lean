/- Models of functions of the program, printed. -/
import Derived.Test.YtpfmbaidflhamaaGreatDoorM4
namespace M
open Sx
set_option linter.unusedVariables false
def exact_Bound_l4 (c : List (Bool × LI)) : Bool × LI × Int → Option ((Bool × LI × Int) ⊕ ((Bool × LI))) := fun (d, e, b) =>
  if b < (c.length : Int) then
    (getI c b).bind fun a =>
    (integer_Mul a.1 a.2 a.1 a.2).bind fun f =>
    (integer_Add d e f.1 f.2).bind fun g =>
    some (.inl (g.1, g.2, wa .i64 b 1))
  else
    some (.inr (d, e))
def exact_Bound_l3 (b : List (List (Bool × LI))) : Bool × LI × Int → Option ((Bool × LI × Int) ⊕ ((Bool × LI))) := fun (c, d, a) =>
  if a < (b.length : Int) then
    (getI b a).bind fun f =>
    (loop (exact_Bound_l4 f) (false, [], 0)).bind fun (g, h) =>
    (integer_Mul c d g h).bind fun e =>
    some (.inl (e.1, e.2, wa .i64 a 1))
  else
    some (.inr (c, d))
def exact_Bound (a : List (List (Bool × LI))) : Option (Bool × LI × Int) :=
  (exact_check a).bind fun b =>
  if b = 0 then
    (integer_FromInt 1).bind fun c =>
    (loop (exact_Bound_l3 a) (c.1, c.2, 0)).bind fun (d, e) =>
    some (d, e, 0)
  else
    some (false, [], b)

def sparsekit_Limbs_l1 (b : LI) (c : LI) : Int → Option ((Int) ⊕ (Unit ⊕ Unit)) := fun a =>
  if a < (b.length : Int) then
    (getI b a).bind fun d =>
    (getI c a).bind fun e =>
    if d = e then
      some (.inl (wa .i64 a 1))
    else
      some (.inr (.inr ()))
  else
    some (.inr (.inl ()))
def sparsekit_Limbs (a : LI) (b : LI) : Option (Bool) :=
  if (a.length : Int) = (b.length : Int) then
    (loop (sparsekit_Limbs_l1 a b) 0).bind (fun o => match o with
      | .inl () =>
        some true
      | .inr () =>
        some false)
  else
    some false

def sparsekit_Big (a : Bool) (b : LI) (c : Bool) (d : LI) : Option (Bool) :=
  (if (a == c) = true then
    (sparsekit_Limbs b d).bind fun e =>
    some e
  else
    some false).bind fun f =>
  some f

def sparseref01_Norm (b : Bool) (c : LI) : Option (Bool × LI) :=
  (sparseref01_make1 b c).bind fun a =>
  some (a.1, a.2)

def sparseref01_Int_l1 (b : Bool × LI) : Int × Int → Option ((Int × Int) ⊕ (Int)) := fun (c, a) =>
  if a < (b.2.length : Int) then
    (getI b.2 a).bind fun d =>
    (wshl .u64 (wc .u64 d) (wm .i64 32 a)).bind fun e =>
    some (.inl (wor .u64 c e, wa .i64 a 1))
  else
    some (.inr c)
def sparseref01_Int (c : Bool) (d : LI) : Option (Int × Bool) :=
  (sparseref01_Norm c d).bind fun b =>
  if (2 : Int) < (b.2.length : Int) then
    some (0, false)
  else
    (loop (sparseref01_Int_l1 b) (0, 0)).bind fun a =>
    if b.1 = true then
      if (9223372036854775808 : Int) < a then
        some (0, false)
      else
        some (ws .i64 (wneg .i64 (wc .i64 (ws .u64 a 1))) 1, true)
    else
      if (9223372036854775807 : Int) < a then
        some (0, false)
      else
        some (wc .i64 a, true)

def modular_columns (a : L2) : Option (Int) :=
  if (a.length : Int) = 0 then
    some 0
  else
    (getI a 0).bind fun b =>
    some (b.length : Int)

def modular_IsPrime_l2 (b : Int) : Int → Option ((Int) ⊕ (Unit ⊕ Unit)) := fun a =>
  if (wm .i64 a a) ≤ b then
    (wr b a).bind fun c =>
    if c = 0 then
      some (.inr (.inr ()))
    else
      some (.inl (wa .i64 a 1))
  else
    some (.inr (.inl ()))
def modular_IsPrime (a : Int) : Option (Bool) :=
  if ((decide (a < 2)) || (decide ((2147483647 : Int) < a))) = true then
    some false
  else
    (loop (modular_IsPrime_l2 a) 2).bind (fun o => match o with
      | .inl () =>
        some true
      | .inr () =>
        some false)

def modular_check_1 (a : LI) (b : Int) : Option (Bool) :=
  some (!(decide ((a.length : Int) = b)))

def slices_IndexFunc_int_l1 (b : L2) (c : Int) : Int → Option ((Int) ⊕ (Unit ⊕ Int)) := fun a =>
  if a < (b.length : Int) then
    (getI b a).bind fun d =>
    (modular_check_1 d c).bind fun e =>
    if e = true then
      some (.inr (.inr a))
    else
      some (.inl (wa .i64 a 1))
  else
    some (.inr (.inl ()))
def slices_IndexFunc_int (a : L2) (b : Int) : Option (Int) :=
  (loop (slices_IndexFunc_int_l1 a b) 0).bind (fun o => match o with
    | .inl () =>
      some (-1)
    | .inr c =>
      some c)

def slices_ContainsFunc_int (a : L2) (b : Int) : Option (Bool) :=
  (slices_IndexFunc_int a b).bind fun c =>
  some (decide ((0 : Int) ≤ c))

def modular_check (a : L2) (c : Int) : Option (Int) :=
  (modular_columns a).bind fun b =>
  (modular_IsPrime c).bind fun d =>
  if d = true then
    (slices_ContainsFunc_int a b).bind fun e =>
    if e = true then
      some 5
    else
      if ((decide ((200 : Int) < (a.length : Int))) || (decide ((200 : Int) < b))) = true then
        some 6
      else
        some 0
  else
    some 70

def modular_square (a : L2) (c : Int) : Option (Int) :=
  (modular_check a c).bind fun b =>
  (if b = 0 then
    (modular_columns a).bind fun d =>
    some (!(decide ((a.length : Int) = d)))
  else
    some false).bind fun e =>
  if e = true then
    some 5
  else
    some b

def modular_mod_j1 (a : Int) : Option (Int) :=
  some a
def modular_mod (c : Int) (b : Int) : Option (Int) :=
  (wr c b).bind fun a =>
  if a < 0 then
    modular_mod_j1 (wa .i64 a b)
  else
    modular_mod_j1 a

def modular_reduced_l4 (b : LI) (d : Int) : LI × Int → Option ((LI × Int) ⊕ (LI)) := fun (c, a) =>
  if a < (b.length : Int) then
    (getI b a).bind fun e =>
    (modular_mod e d).bind fun f =>
    (app c [f]).bind fun g =>
    some (.inl (g, wa .i64 a 1))
  else
    some (.inr c)
def modular_reduced_l3 (b : L2) (d : Int) : L2 × Int → Option ((L2 × Int) ⊕ (L2)) := fun (c, a) =>
  if a < (b.length : Int) then
    (getI b a).bind fun e =>
    (loop (modular_reduced_l4 e d) ([], 0)).bind fun f =>
    (app c [f]).bind fun g =>
    some (.inl (g, wa .i64 a 1))
  else
    some (.inr c)
def modular_reduced (a : L2) (b : Int) : Option (L2) :=
  (loop (modular_reduced_l3 a b) ([], 0)).bind fun c =>
  some c
end M
