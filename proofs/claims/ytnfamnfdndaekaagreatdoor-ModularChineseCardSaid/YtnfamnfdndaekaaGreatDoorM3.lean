/- Models of functions of the program, printed. -/
import Derived.Test.YtnfamnfdndaekaaGreatDoorM2
namespace M
open Sx
set_option linter.unusedVariables false
def integer_Sub (b : Bool) (c : LI) (d : Bool) (e : LI) : Option (Bool × LI) :=
  (integer_Add b c (!(d)) e).bind fun a =>
  some (a.1, a.2)

def modular_Combine_j2 (a : Bool) (b : LI) (c : Bool) (d : LI) : Option (Bool × LI × Bool × LI × Int) :=
  some (c, d, a, b, 0)
def modular_Combine_l1 (g : LI) (m : LI) : Bool × LI × Bool × LI × Int → Option ((Bool × LI × Bool × LI × Int) ⊕ ((Bool × LI × Bool × LI))) := fun (e, f, b, c, d) =>
  if d < (g.length : Int) then
    (getI g d).bind fun a =>
    (getI m d).bind fun n =>
    (modular_mod n a).bind fun o =>
    (modular_remainder e f a).bind fun p =>
    (modular_mod (ws .i64 o p) a).bind fun q =>
    (modular_remainder b c a).bind fun r =>
    (modular_inverse r a).bind fun s =>
    (wr (wm .i64 q s) a).bind fun t =>
    (integer_FromInt t).bind fun h =>
    (integer_Mul b c h.1 h.2).bind fun i =>
    (integer_Add e f i.1 i.2).bind fun j =>
    (integer_FromInt a).bind fun k =>
    (integer_Mul b c k.1 k.2).bind fun l =>
    some (.inl (j.1, j.2, l.1, l.2, wa .i64 d 1))
  else
    some (.inr (e, f, b, c))
def modular_Combine (f : LI) (a : LI) : Option (Bool × LI × Bool × LI × Int) :=
  if (f.length : Int) = (a.length : Int) then
    (slices_ContainsFunc_int a).bind fun j =>
    if j = true then
      some (false, [], false, [], 70)
    else
      (slices_Values_int a).bind fun n =>
      (slices_Sorted_int a).bind fun k =>
      (compactI k).bind fun l =>
      if (l.length : Int) = (a.length : Int) then
        (integer_FromInt 1).bind fun g =>
        (loop (modular_Combine_l1 a f) (false, [], g.1, g.2, 0)).bind fun (b, c, d, e) =>
        (integer_Add b c b c).bind fun h =>
        (integer_Cmp h.1 h.2 d e).bind fun m =>
        if (0 : Int) < m then
          (integer_Sub b c d e).bind fun i =>
          modular_Combine_j2 d e i.1 i.2
        else
          modular_Combine_j2 d e b c
      else
        some (false, [], false, [], 1)
  else
    some (false, [], false, [], 2)

def integer_Norm (b : Bool) (c : LI) : Option (Bool × LI) :=
  (slices_Clone_uint32 c).bind fun d =>
  (integer_big b d).bind fun a =>
  some (a.1, a.2)

def sparsekit_Limbs_l1 (b : LI) (c : LI) : Int → Option ((Int) ⊕ (Unit ⊕ Unit)) := fun a =>
  if a < (b.length : Int) then
    (getI b a).bind fun d =>
    (getI c a).bind fun e =>
    if d = e then
      some (.inl (wa .i64 a 1))
    else
      some (.inr (.inr ()))
  else
    some (.inr (.inl ()))
def sparsekit_Limbs (a : LI) (b : LI) : Option (Bool) :=
  if (a.length : Int) = (b.length : Int) then
    (loop (sparsekit_Limbs_l1 a b) 0).bind (fun o => match o with
      | .inl () =>
        some true
      | .inr () =>
        some false)
  else
    some false

def sparsekit_Big (a : Bool) (b : LI) (c : Bool) (d : LI) : Option (Bool) :=
  (if (a == c) = true then
    (sparsekit_Limbs b d).bind fun e =>
    some e
  else
    some false).bind fun f =>
  some f

def modular_Inverse (b : Int) (a : Int) : Option (Int × Int) :=
  (modular_IsPrime a).bind fun c =>
  if c = true then
    (modular_mod b a).bind fun d =>
    if d = 0 then
      some (0, 8)
    else
      (modular_mod b a).bind fun e =>
      (modular_inverse e a).bind fun f =>
      some (f, 0)
  else
    some (0, 70)

def modular_columns (a : L2) : Option (Int) :=
  if (a.length : Int) = 0 then
    some 0
  else
    (getI a 0).bind fun b =>
    some (b.length : Int)

def modular_check_1 (a : LI) (b : Int) : Option (Bool) :=
  some (!(decide ((a.length : Int) = b)))

def slices_IndexFunc_int_v2_l1 (b : L2) (c : Int) : Int → Option ((Int) ⊕ (Unit ⊕ Int)) := fun a =>
  if a < (b.length : Int) then
    (getI b a).bind fun d =>
    (modular_check_1 d c).bind fun e =>
    if e = true then
      some (.inr (.inr a))
    else
      some (.inl (wa .i64 a 1))
  else
    some (.inr (.inl ()))
def slices_IndexFunc_int_v2 (a : L2) (b : Int) : Option (Int) :=
  (loop (slices_IndexFunc_int_v2_l1 a b) 0).bind (fun o => match o with
    | .inl () =>
      some (-1)
    | .inr c =>
      some c)

def slices_ContainsFunc_int_v2 (a : L2) (b : Int) : Option (Bool) :=
  (slices_IndexFunc_int_v2 a b).bind fun c =>
  some (decide ((0 : Int) ≤ c))

def modular_check (a : L2) (c : Int) : Option (Int) :=
  (modular_columns a).bind fun b =>
  (modular_IsPrime c).bind fun d =>
  if d = true then
    (slices_ContainsFunc_int_v2 a b).bind fun e =>
    if e = true then
      some 5
    else
      if ((decide ((200 : Int) < (a.length : Int))) || (decide ((200 : Int) < b))) = true then
        some 6
      else
        some 0
  else
    some 70

def modular_reduced_l4 (b : LI) (d : Int) : LI × Int → Option ((LI × Int) ⊕ (LI)) := fun (c, a) =>
  if a < (b.length : Int) then
    (getI b a).bind fun e =>
    (modular_mod e d).bind fun f =>
    (app c [f]).bind fun g =>
    some (.inl (g, wa .i64 a 1))
  else
    some (.inr c)
def modular_reduced_l3 (b : L2) (d : Int) : L2 × Int → Option ((L2 × Int) ⊕ (L2)) := fun (c, a) =>
  if a < (b.length : Int) then
    (getI b a).bind fun e =>
    (loop (modular_reduced_l4 e d) ([], 0)).bind fun f =>
    (app c [f]).bind fun g =>
    some (.inl (g, wa .i64 a 1))
  else
    some (.inr c)
def modular_reduced (a : L2) (b : Int) : Option (L2) :=
  (loop (modular_reduced_l3 a b) ([], 0)).bind fun c =>
  some c

def modular_echelon_1 (a : LI) (b : Int) : Option (Bool) :=
  (getI a b).bind fun c =>
  some (!(decide (c = 0)))

def slices_IndexFunc_int_v3_l1 (b : L2) (c : Int) : Int → Option ((Int) ⊕ (Unit ⊕ Int)) := fun a =>
  if a < (b.length : Int) then
    (getI b a).bind fun d =>
    (modular_echelon_1 d c).bind fun e =>
    if e = true then
      some (.inr (.inr a))
    else
      some (.inl (wa .i64 a 1))
  else
    some (.inr (.inl ()))
def slices_IndexFunc_int_v3 (a : L2) (b : Int) : Option (Int) :=
  (loop (slices_IndexFunc_int_v3_l1 a b) 0).bind (fun o => match o with
    | .inl () =>
      some (-1)
    | .inr c =>
      some c)
end M
